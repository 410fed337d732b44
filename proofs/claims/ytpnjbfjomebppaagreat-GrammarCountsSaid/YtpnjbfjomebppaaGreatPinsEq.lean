import Derived.Test.YtpnjbfjomebppaaGreatS3D
import Derived.Test.YtpnjbfjomebppaaGreatProg
open Go.Proofs.Tryz (prog)
open Go.IntKind (u8 u16 i64)
set_option linter.unusedSimpArgs false
open Go Go.S3 Go.Proofs
set_option linter.unusedVariables false
set_option maxRecDepth 100000
namespace Go.Proofs.YtpnjbfjomebppaaGreat
noncomputable section
abbrev ZFI:Rs:=Rs.one (Sh.one R.bool)
def Zzd (b:Int):RT (Option (Bool)):=
 let x1:=andI u8 (andI u8 b (u8.wrap (b-1))) (u8.wrap (andI u8 b (u8.wrap (b-1))-1))
 let x2:= !x1 !=0
 let x3:=andI u8 x1 (u8.wrap (x1-1))
 let x4:=x3 !=0
 let x5:=andI u8 x3 (u8.wrap (x3-1))
 let x6:= !x5 !=0
 let x7:=andI u8 x5 (u8.wrap (x5-1))
 let x8:=x7 !=0
 let x9:=andI u8 x7 (u8.wrap (x7-1))
 let x10:= !x9 !=0
 let x11:=andI u8 x9 (u8.wrap (x9-1))
 let x12:=x11 !=0
 let x13:=andI u8 x11 (u8.wrap (x11-1))
 let x14:= !x13 !=0
 .br (!b !=0||(!andI u8 b (u8.wrap (b-1)) !=0||(x2||(!x4||(x6||(!x8||(x10||(!x12||(x14|| !andI u8 x13 (u8.wrap (x13-1)) !=0))))))))) (.Lf (some (!b !=0||andI u8 b (u8.wrap (b-1)) !=0&&(x2||x4&&(x6||x8&&(x10||x12&&x14)))))) (.Lf none)
def Zwk (b:Int):Bool:=getO ZFI.Df (Zzd b).val
def ZpX (b:Int):Bool:=okB (Zzd b).val
abbrev pOfRs:Rs:=Rs.one (Sh.agg rcF7)
def pOfT (r:Int):RT (Option TF):=
 .br (ZpX r) (.Lf (some ((decide (r>=128),r==0,false,false,Zwk r,false,false)))) (.Lf none)
def pOf (r:Int):TF:=getO pOfRs.Df (pOfT r).val
abbrev ZMe:Rs:=Rs.one (Sh.one (R.int u8))
def ZFB (b:Bool) (n:Int):RT (Option (Int)):=
 .br (!b||decide (0<=n)) (.br (b) (.Lf (some (shlI u8 1 n))) (.Lf (some (0)))) (.Lf none)
def Zwi (b:Bool) (n:Int):Int:=getO ZMe.Df (ZFB b n).val
def ZcH (b:Bool) (n:Int):Bool:=okB (ZFB b n).val
abbrev ZNO:Rs:=Rs.tup [Sh.one (R.int u8),Sh.agg ZX]
def ZMf (c:TC) (l:QT0):RT (Option (Int×TC)):=
 let x1:=bif c.2.2.2.2.2.2.2.2.2.2.1 then c.2.2.2.2.2.2.2.2.2.2.2.1 else c.2.2.1
 .br (!ZcH l.2.2.2.1 7||(!ZcH c.2.2.2.2.2.2.2.1 6||(!ZcH l.2.2.2.2.2.2.1 5||(!ZcH l.2.2.2.2.2.2.2.1 4||ZcH x1 3)))) (.br (!ZcH l.2.2.2.1 7||(!ZcH c.2.2.2.2.2.2.2.1 6||(!ZcH l.2.2.2.2.2.2.1 5||ZcH l.2.2.2.2.2.2.2.1 4))) (.br (!ZcH l.2.2.2.1 7||(!ZcH c.2.2.2.2.2.2.2.1 6||ZcH l.2.2.2.2.2.2.1 5)) (.br (!ZcH l.2.2.2.1 7||ZcH c.2.2.2.2.2.2.2.1 6) (.br (ZcH l.2.2.2.1 7) (.Lf (some ((orI u8 (orI u8 (orI u8 (orI u8 (orI u8 (Zwi l.2.2.2.1 7) (Zwi c.2.2.2.2.2.2.2.1 6)) (Zwi l.2.2.2.2.2.2.1 5)) (Zwi l.2.2.2.2.2.2.2.1 4)) (Zwi x1 3)) (andI u8 c.2.2.2.2.2.1 7),c.1,c.2.1,c.2.2.1,c.2.2.2.1,c.2.2.2.2.1,c.2.2.2.2.2.1,c.2.2.2.2.2.2.1,c.2.2.2.2.2.2.2.1,c.2.2.2.2.2.2.2.2.1,c.2.2.2.2.2.2.2.2.2.1,false,false,c.2.2.2.2.2.2.2.2.2.2.2.2)))) (.Lf none)) (.Lf none)) (.Lf none)) (.Lf none)) (.Lf none)
def pRim (c:TC) (l:QT0):Int×TC:=getO ZNO.Df (ZMf c l).val
def ZNP (c:TC) (l:QT0):Bool:=okB (ZMf c l).val
def ZMi (op:Int):RT (TI×Bool):=
 .br (op==8) (.Lf (((40,1,0,0,0,0,0,0),true))) (.br (op==16) (.Lf (((41,1,0,0,0,0,0,0),true))) (.br (op==24) (.Lf (((42,1,0,0,0,0,0,0),true))) (.br (op==32) (.Lf (((38,1,0,0,0,0,0,0),true))) (.br (op==40) (.Lf (((43,2,0,0,0,0,0,0),true))) (.br (op==48) (.Lf (((39,1,0,0,0,0,0,0),true))) (.br (op==56) (.Lf (((44,2,0,0,0,0,0,0),true))) (.br (op==203) (.Lf (((45,1,0,0,0,0,10,0),true))) (.br (op==217) (.Lf (((46,1,0,0,0,0,0,0),true))) (.br (op==221) (.Lf (((24,3,0,0,0,0,8,0),true))) (.br (op==237) (.Lf (((47,1,0,0,0,0,0,0),true))) (.br (op==253) (.Lf (((24,3,0,0,0,0,9,0),true))) (.Lf (((0,0,0,0,0,0,0,0),false))))))))))))))
def ZKI (op:Int):TI×Bool:=(ZMi op).val
def ZFL (op:Int):RT (TI×Bool):=
 .br (bif op==0 then op==0 else bif op==8 then op==8 else bif op==16 then op==16 else bif op==24 then op==24 else bif op==32 then op==32 else bif op==40 then op==40 else bif op==48 then op==48 else op==56) (.Lf (((1,1,0,0,0,0,0,0),true))) (.br (bif op==195 then op==195 else op==203) (.Lf (((24,3,0,0,0,0,11,0),true))) (.br (bif op==201 then op==201 else op==217) (.Lf (((26,1,0,0,0,0,11,0),true))) (.br (bif op==205 then op==205 else bif op==221 then op==221 else bif op==237 then op==237 else op==253) (.Lf (((25,3,0,0,0,0,11,0),true))) (.Lf (((0,0,0,0,0,0,0,0),false))))))
def Zjn (op:Int):TI×Bool:=(ZFL op).val
abbrev ZMh:Rs:=Rs.one (Sh.agg (R.Pq (R.int i64) (R.Pq (R.int i64) (R.Pq (R.int i64) (R.Pq (R.int i64) (R.Pq (R.int i64) (R.Pq (R.int i64) (R.Pq (R.int i64) (R.int i64)))))))))
def ZKF (op:Int):RT (Option TI):=
 let x1:QT25:=(0,0,i64.wrap (andI u8 (shrI u8 op 4) 3),0,0,0)
 let x2:QT16:=(1,x1)
 let x3:=decide (i64.wrap (andI u8 (shrI u8 op 3) 7)<4)&&andI u8 op 8 !=0
 let x4:=decide (0<=i64.wrap (i64.wrap (andI u8 (shrI u8 op 3) 7)-4)/\i64.wrap (i64.wrap (andI u8 (shrI u8 op 3) 7)-4)<4)
 let x5:=i64.wrap (i64.wrap (andI u8 (shrI u8 op 3) 7)-4)==0
 let x6:=i64.wrap (i64.wrap (andI u8 (shrI u8 op 3) 7)-4)== ↑(0+1)
 let x7:=i64.wrap (i64.wrap (andI u8 (shrI u8 op 3) 7)-4)== ↑(0+1+1)
 let x8:QT25:=(i64.wrap (andI u8 (shrI u8 op 3) 7),0,0,0,0,0)
 let x9:QT16:=(1,x8)
 .br (andI u8 op 7==1) (.br (andI u8 op 8 !=0) (.Lf (some ((18,x2)))) (.Lf (some ((4,3,x1))))) (.br (!andI u8 op 7==2||(x3||(decide (i64.wrap (andI u8 (shrI u8 op 3) 7)<4)||x4))) (.br (andI u8 op 7==2) (.br (x3) (.Lf (some ((9,x2)))) (.br (decide (i64.wrap (andI u8 (shrI u8 op 3) 7)<4)) (.Lf (some ((10,x2)))) (.Lf (some ((bif x5 then 8 else bif x6 then 7 else bif x7 then 6 else 5,3,0,0,0,0,0,0)))))) (.br (andI u8 op 7==3) (.br (andI u8 op 8 !=0) (.Lf (some ((17,x2)))) (.Lf (some ((16,x2))))) (.br (andI u8 op 7==4) (.Lf (some ((14,x9)))) (.br (andI u8 op 7==5) (.Lf (some ((15,x9)))) (.br (andI u8 op 7==6) (.Lf (some ((3,2,x8)))) (.br (decide (i64.wrap (andI u8 (shrI u8 op 3) 7)<4)) (.Lf (some ((23,1,0,0,0,i64.wrap (andI u8 (shrI u8 op 3) 7),0,0)))) (.br (x4) (.Lf (some ((bif x5 then 19 else bif x6 then 20 else bif x7 then 21 else 22,1,0,0,0,0,0,0)))) (.Lf none)))))))) (.Lf none))
def ZNQ (op:Int):QT5:=getO ZMh.Df (ZKF op).val
def ZKG (op:Int):Bool:=okB (ZKF op).val
abbrev ZIV:Rs:=Rs.one (Sh.agg (R.Pq (R.int i64) (R.Pq (R.int i64) (R.Pq (R.int i64) (R.Pq (R.int i64) (R.Pq (R.int i64) (R.Pq (R.int i64) (R.Pq (R.int i64) (R.int i64)))))))))
def ZFJ (op:Int):RT (Option TI):=
 let x1:QT25:=(0,0,0,0,i64.wrap (andI u8 (shrI u8 op 3) 7),0)
 let x2:QT16:=(1,0,0,i64.wrap (andI u8 (shrI u8 op 4) 3),0,0,0)
 let x3:=andI u8 op 7==2||(!andI u8 op 7==3||(!decide (i64.wrap (andI u8 (shrI u8 op 3) 7)<4)||decide (0<=i64.wrap (i64.wrap (andI u8 (shrI u8 op 3) 7)-2)/\i64.wrap (i64.wrap (andI u8 (shrI u8 op 3) 7)-2)<2)))
 let x4:QT16:=(3,x1)
 .br (andI u8 op 7==0) (.Lf (some ((26,1,x1)))) (.br (andI u8 op 7==1) (.br (!andI u8 op 8 !=0) (.Lf (some ((31,x2)))) (.br (i64.wrap (andI u8 (shrI u8 op 3) 7)==5) (.Lf (some ((28,1,0,0,0,0,0,0)))) (.Lf (some ((29,1,0,0,0,0,0,0)))))) (.br (!x3||(andI u8 op 7==2||(!andI u8 op 7==3||(decide (i64.wrap (andI u8 (shrI u8 op 3) 7)<4)||decide (0<=i64.wrap (i64.wrap (andI u8 (shrI u8 op 3) 7)-4)/\i64.wrap (i64.wrap (andI u8 (shrI u8 op 3) 7)-4)<4))))) (.br (x3) (.br (andI u8 op 7==2) (.Lf (some ((24,x4)))) (.br (andI u8 op 7==3) (.br (decide (i64.wrap (andI u8 (shrI u8 op 3) 7)<4)) (.Lf (some ((bif i64.wrap (i64.wrap (andI u8 (shrI u8 op 3) 7)-2)==0 then 34 else 33,2,0,0,0,0,0,0)))) (.Lf (some ((bif i64.wrap (i64.wrap (andI u8 (shrI u8 op 3) 7)-4)==0 then 32 else bif i64.wrap (i64.wrap (andI u8 (shrI u8 op 3) 7)-4)== ↑(0+1) then 11 else bif i64.wrap (i64.wrap (andI u8 (shrI u8 op 3) 7)-4)== ↑(0+1+1) then 36 else 35,1,0,0,0,0,0,0))))) (.br (andI u8 op 7==4) (.Lf (some ((25,x4)))) (.br (andI u8 op 7==5) (.Lf (some ((30,x2)))) (.br (andI u8 op 7==6) (.Lf (some ((13,2,0,0,0,i64.wrap (andI u8 (shrI u8 op 3) 7),0,0)))) (.Lf (some ((27,1,0,0,0,0,0,i64.wrap (andI u8 (shrI u8 op 3) 7)))))))))) (.Lf none)) (.Lf none)))
def ZKH (op:Int):QT5:=getO ZIV.Df (ZFJ op).val
def ZFK (op:Int):Bool:=okB (ZFJ op).val
abbrev ZFM:Rs:=Rs.one (Sh.agg (R.Pq (R.int i64) (R.Pq (R.int i64) (R.Pq (R.int i64) (R.Pq (R.int i64) (R.Pq (R.int i64) (R.Pq (R.int i64) (R.Pq (R.int i64) (R.int i64)))))))))
def ZfH (chip:Int) (op:Int):RT (Option TI):=
 let x1:QT5:=(37,1,0,0,0,0,0,0)
 let x2:QT5:=(2,1,i64.wrap (andI u8 (shrI u8 op 3) 7),i64.wrap (andI u8 op 7),0,0,0,0)
 let x3:QT5:=(12,1,0,i64.wrap (andI u8 op 7),0,i64.wrap (andI u8 (shrI u8 op 3) 7),0,0)
 .br (chip==2) (.br (ZKI op).2 (.Lf (some (ZKI op).1)) (.br (Zjn op).2 (.Lf (some (Zjn op).1)) (.br (!shrI u8 op 6==0||ZKG op) (.br (shrI u8 op 6==0) (.Lf (some (ZNQ op))) (.br (shrI u8 op 6==1) (.br (op==118) (.Lf (some (x1))) (.Lf (some (x2)))) (.br (shrI u8 op 6==2) (.Lf (some (x3))) (.br (ZFK op) (.Lf (some (ZKH op))) (.Lf none))))) (.Lf none)))) (.br (Zjn op).2 (.Lf (some (Zjn op).1)) (.br (!shrI u8 op 6==0||ZKG op) (.br (shrI u8 op 6==0) (.Lf (some (ZNQ op))) (.br (shrI u8 op 6==1) (.br (op==118) (.Lf (some (x1))) (.Lf (some (x2)))) (.br (shrI u8 op 6==2) (.Lf (some (x3))) (.br (ZFK op) (.Lf (some (ZKH op))) (.Lf none))))) (.Lf none)))
def Zp0 (chip:Int) (op:Int):QT5:=getO ZFM.Df (ZfH chip op).val
def ZpZ (chip:Int) (op:Int):Bool:=okB (ZfH chip op).val
abbrev ZNr:List Sh:=[Sh.one (R.int i64)]
abbrev ZNs:Rs:=Rs.one (Sh.one R.bool)
def rOnT (chip:Int):RT (Bool):=
 .Lf (chip==2)
def rOn (chip:Int):Bool:=(rOnT chip).val
def rOnE:En:=Zi ZNr ZNs (λ_=>none) (λa=>rOn a)
theorem Zdq:Zd prog 171 rOnE:=
 pureQ 7 [] [] ZNr ZNs trivial Tryz.func171 Tryz.call171 trivial (t:=λa=>rOnT a)
abbrev ZrW:List Sh:=[Sh.one (R.int u8)]
abbrev ZrX:Rs:=Rs.one (Sh.one R.bool)
def Zyx (b:Int):RT (Bool):=
 let x1:=i64.wrap (i64.wrap (i64.wrap (i64.wrap (0+1)+1)+1)+1)
 let x2:=i64.wrap (x1+1)
 let x3:=i64.wrap (x2+1)
 let x4:=bif andI u8 (shrI u8 b (i64.wrap (0+1))) 1==1 then !!andI u8 (shrI u8 b 0) 1==1 else !andI u8 (shrI u8 b 0) 1==1
 let x5:=bif andI u8 (shrI u8 b (i64.wrap (i64.wrap (0+1)+1))) 1==1 then !x4 else x4
 let x6:=bif andI u8 (shrI u8 b (i64.wrap (i64.wrap (i64.wrap (0+1)+1)+1))) 1==1 then !x5 else x5
 let x7:=bif andI u8 (shrI u8 b x1) 1==1 then !x6 else x6
 let x8:=bif andI u8 (shrI u8 b x2) 1==1 then !x7 else x7
 let x9:=bif andI u8 (shrI u8 b x3) 1==1 then !x8 else x8
 .Lf (bif andI u8 (shrI u8 b (i64.wrap (x3+1))) 1==1 then !x9 else x9)
def Zkf (b:Int):Bool:=(Zyx b).val
def ZoH:En:=Zi ZrW ZrX (λ_=>none) (λa=>Zkf a)
theorem Zm8:Zd prog 375 ZoH:=
 Zy7 (P:=prog) (n:=31) (k:=10) (l:=[]) (ol:=[]) trivial Tryz.func375 rfl (by kernel_rfl) Tryz.call375 trivial (ts:=ZrW) (rs:=ZrX) (t:=λa=>Zyx a) (λa=>by kernel_rfl)
abbrev ZKh:List Sh:=[Sh.one R.bool,Sh.one R.bool,Sh.one R.bool]
abbrev ZKi:Rs:=Rs.one (Sh.one R.bool)
def ZNx (a:Bool) (b:Bool) (c:Bool):RT (Bool):=
 .Lf (bif a then b||bif a then c||b&&c else b&&c else bif a then c||b&&c else b&&c)
def rMaj (a:Bool) (b:Bool) (c:Bool):Bool:=(ZNx a b c).val
def ZAY:En:=Zi ZKh ZKi (λ_=>none) (λa=>rMaj a.1 a.2.1 a.2.2)
theorem ZkU:Zd prog 371 ZAY:=
 pureQ 127 [] [] ZKh ZKi trivial Tryz.func371 Tryz.call371 trivial (t:=λa=>ZNx a.1 a.2.1 a.2.2)
abbrev ZKb:List Sh:=[Sh.one R.bool]
abbrev ZKc:Rs:=Rs.one (Sh.one (R.int i64))
def ZNq (b:Bool):RT (Int):=
 .br (b) (.Lf (1)) (.Lf (0))
def rOne (b:Bool):Int:=(ZNq b).val
def ZIv:En:=Zi ZKb ZKc (λ_=>none) (λa=>rOne a)
theorem Zu9:Zd prog 376 ZIv:=
 pureQ 7 [] [] ZKb ZKc trivial Tryz.func376 Tryz.call376 trivial (t:=λa=>ZNq a)
abbrev ZrP:List Sh:=[Sh.one (R.int u8)]
abbrev ZrQ:Rs:=Rs.one (Sh.one (R.int i64))
def Zyb (n:Int):RT (Int):=
 .Lf (i64.wrap (IntKind.i8.wrap n))
def Zew (n:Int):Int:=(Zyb n).val
def Zoy:En:=Zi ZrP ZrQ (λ_=>none) (λa=>Zew a)
theorem Zm1:Zd prog 389 Zoy:=
 pureQ 7 [] [] ZrP ZrQ trivial Tryz.func389 Tryz.call389 trivial (t:=λa=>Zyb a)
abbrev ZJZ:List Sh:=[Sh.one (R.int u8),Sh.one (R.int u8),Sh.one R.bool]
abbrev ZJ0:Rs:=Rs.tup [Sh.one (R.int u8),Sh.one R.bool,Sh.one R.bool,Sh.one R.bool]
def ZNk (a:Int) (b:Int) (c:Bool):RT (QT27):=
 let x1:=decide (i64.wrap (i64.wrap (Zew a+Zew b)+rOne c)< -128)
 let x2:=i64.wrap (i64.wrap (i64.wrap a+i64.wrap b)+rOne c)
 let x3:=u8.wrap x2
 let x4:=decide (x2>255)
 let x5:=decide (i64.wrap (i64.wrap (i64.wrap (andI u8 a 15)+i64.wrap (andI u8 b 15))+rOne c)>15)
 .Lf ((bif x1 then x3 else x3,bif x1 then x4 else x4,bif x1 then x5 else x5,x1||decide (i64.wrap (i64.wrap (Zew a+Zew b)+rOne c)>127)))
def rSum (a:Int) (b:Int) (c:Bool):QT27:=(ZNk a b c).val
def ZIe:En:=Zi ZJZ ZJ0 (λ_=>none) (λa=>rSum a.1 a.2.1 a.2.2)
theorem ZuS:Zd prog 367 ZIe:=
 pureQ 8191 [(376,ZIv),(389,Zoy)] [] ZJZ ZJ0 ⟨Zu9,Zm1,Tv⟩ Tryz.func367 Tryz.call367 trivial (t:=λa=>ZNk a.1 a.2.1 a.2.2)
abbrev ZFf:List Sh:=[Sh.one (R.int u8),Sh.one (R.int u8),Sh.one R.bool]
abbrev ZFg:Rs:=Rs.tup [Sh.one (R.int u8),Sh.one R.bool,Sh.one R.bool,Sh.one R.bool]
def ZKs (a:Int) (b:Int) (c:Bool):RT (QT27):=
 let x1:=decide (i64.wrap (i64.wrap (Zew a-Zew b)-rOne c)< -128)
 let x2:=i64.wrap (i64.wrap (i64.wrap a-i64.wrap b)-rOne c)
 let x3:=u8.wrap x2
 let x4:=decide (x2<0)
 let x5:=decide (i64.wrap (i64.wrap (i64.wrap (i64.wrap (andI u8 a 15)+i64.wrap (u8.wrap (15-andI u8 b 15)))+1)-rOne c)>15)
 .Lf ((bif x1 then x3 else x3,bif x1 then x4 else x4,bif x1 then x5 else x5,x1||decide (i64.wrap (i64.wrap (Zew a-Zew b)-rOne c)>127)))
def ZdE (a:Int) (b:Int) (c:Bool):QT27:=(ZKs a b c).val
def ZyU:En:=Zi ZFf ZFg (λ_=>none) (λa=>ZdE a.1 a.2.1 a.2.2)
theorem ZpF:Zd prog 368 ZyU:=
 pureQ 8191 [(376,ZIv),(389,Zoy)] [] ZFf ZFg ⟨Zu9,Zm1,Tv⟩ Tryz.func368 Tryz.call368 trivial (t:=λa=>ZKs a.1 a.2.1 a.2.2)
abbrev ZEP:List Sh:=[Sh.one (R.int u8),Sh.one (R.int u8)]
abbrev ZEQ:Rs:=Rs.one (Sh.one (R.int u16))
def ZKj (h:Int) (l:Int):RT (Int):=
 .Lf (orI u16 (shlI u16 (u16.wrap h) 8) (u16.wrap l))
def ZcG (h:Int) (l:Int):Int:=(ZKj h l).val
def ZkY:En:=Zi ZEP ZEQ (λ_=>none) (λa=>ZcG a.1 a.2)
theorem Zg7:Zd prog 325 ZkY:=
 pureQ 31 [] [] ZEP ZEQ trivial Tryz.func325 Tryz.call325 trivial (t:=λa=>ZKj a.1 a.2)
abbrev ZKC:List Sh:=[Sh.one R.bool,Sh.one (R.int i64)]
abbrev ZFn:Rs:=Rs.one (Sh.one (R.int u8))
def ZII (b:Bool) (n:Int):RT (Option (Int)):=
 .br (!b||decide (0<=n)) (.br (b) (.Lf (some (shlI u8 1 n))) (.Lf (some (0)))) (.Lf none)
def rBit (b:Bool) (n:Int):Int:=getO ZFn.Df (ZII b n).val
def Zc6 (b:Bool) (n:Int):Bool:=okB (ZII b n).val
def ZIJ:En:=Zi ZKC ZFn (λa=>some (Zc6 a.1 a.2)) (λa=>rBit a.1 a.2)
theorem Zwa:Zd prog 374 ZIJ:=
 pureP 31 [] [] ZKC ZFn trivial Tryz.func374 Tryz.call374 trivial (t:=λa=>ZII a.1 a.2)
abbrev ZEt:List Sh:=[Sh.one (R.int i64),Sh.agg rcF7]
abbrev Zu8:Rs:=Rs.one (Sh.one (R.int u8))
def Zyy (chip:Int) (f:TF):RT (Option (Int)):=
 let x1:=orI u8 (orI u8 (orI u8 (orI u8 (rBit f.1 7) (rBit f.2.1 6)) (rBit f.2.2.2.1 4)) (rBit f.2.2.2.2.1 2)) (rBit f.2.2.2.2.2.2 0)
 .br (!Zc6 f.1 7||(!Zc6 f.2.1 6||(!Zc6 f.2.2.2.1 4||(!Zc6 f.2.2.2.2.1 2||Zc6 f.2.2.2.2.2.2 0)))) (.br (!Zc6 f.1 7||(!Zc6 f.2.1 6||(!Zc6 f.2.2.2.1 4||Zc6 f.2.2.2.2.1 2))) (.br (!Zc6 f.1 7||(!Zc6 f.2.1 6||Zc6 f.2.2.2.1 4)) (.br (!Zc6 f.1 7||Zc6 f.2.1 6) (.br (Zc6 f.1 7) (.br (!rOn chip||(!Zc6 f.2.2.1 5||Zc6 f.2.2.2.2.2.1 1)) (.br (!rOn chip||Zc6 f.2.2.1 5) (.br (rOn chip) (.Lf (some (orI u8 (orI u8 x1 (rBit f.2.2.1 5)) (rBit f.2.2.2.2.2.1 1)))) (.Lf (some (orI u8 x1 2)))) (.Lf none)) (.Lf none)) (.Lf none)) (.Lf none)) (.Lf none)) (.Lf none)) (.Lf none)
def ZNp (chip:Int) (f:TF):Int:=getO Zu8.Df (Zyy chip f).val
def Zyz (chip:Int) (f:TF):Bool:=okB (Zyy chip f).val
def ZJ9:En:=Zi ZEt Zu8 (λa=>some (Zyz a.1 a.2)) (λa=>ZNp a.1 a.2)
theorem ZIs:Zd prog 377 ZJ9:=
 pureP 63 [(171,rOnE),(374,ZIJ)] [] ZEt Zu8 ⟨Zdq,Zwa,Tv⟩ Tryz.func377 Tryz.call377 trivial (t:=λa=>Zyy a.1 a.2)
abbrev ZrH:List Sh:=[Sh.one (R.int i64),Sh.one (R.int u8)]
abbrev ZrI:Rs:=Rs.one (Sh.agg rcF7)
def Zx6 (chip:Int) (b:Int):RT TF:=
 .Lf ((andI u8 b 128 !=0,andI u8 b 64 !=0,rOn chip&&andI u8 b 32 !=0,andI u8 b 16 !=0,andI u8 b 4 !=0,rOn chip&&andI u8 b 2 !=0,andI u8 b 1 !=0))
def ZD7 (chip:Int) (b:Int):TF:=(Zx6 chip b).val
def Zx7:En:=Zi ZrH ZrI (λ_=>none) (λa=>ZD7 a.1 a.2)
theorem ZAE:Zd prog 366 Zx7:=
 pureQ 63 [(171,rOnE)] [] ZrH ZrI ⟨Zdq,Tv⟩ Tryz.func366 Tryz.call366 trivial (t:=λa=>Zx6 a.1 a.2)
abbrev ZNu:List Sh:=[Sh.one (R.int u8)]
abbrev ZNv:Rs:=Rs.one (Sh.agg rcF7)
def rOfT (r:Int):RT TF:=
 .Lf ((decide (r>=128),r==0,false,false,Zkf r,false,false))
def rOf (r:Int):TF:=(rOfT r).val
def rOfE:En:=Zi ZNu ZNv (λ_=>none) (λa=>rOf a)
theorem ZyC:Zd prog 369 rOfE:=
 pureQ 7 [(375,ZoH)] [] ZNu ZNv ⟨Zm8,Tv⟩ Tryz.func369 Tryz.call369 trivial (t:=λa=>rOfT a)
abbrev ZEw:List Sh:=[Sh.one (R.int i64),Sh.agg rcF7,Sh.one R.bool,Sh.one R.bool]
abbrev ZEx:Rs:=Rs.one (Sh.agg rcF7)
def ZKa (chip:Int) (f:TF) (k:Bool) (v:Bool):RT TF:=
 .Lf ((f.1,f.2.1,rOn chip&&bif rOn chip then k else k,f.2.2.2.1,f.2.2.2.2.1,bif rOn chip then rOn chip&&v else rOn chip&&v,f.2.2.2.2.2.2))
def ZEy (chip:Int) (f:TF) (k:Bool) (v:Bool):TF:=(ZKa chip f k v).val
def ZrZ:En:=Zi ZEw ZEx (λ_=>none) (λa=>ZEy a.1 a.2.1 a.2.2.1 a.2.2.2)
theorem Zjg:Zd prog 370 ZrZ:=
 pureQ 511 [(171,rOnE)] [] ZEw ZEx ⟨Zdq,Tv⟩ Tryz.func370 Tryz.call370 trivial (t:=λa=>ZKa a.1 a.2.1 a.2.2.1 a.2.2.2)
abbrev ZEV:List Sh:=[Sh.agg ZjY,Sh.one (R.int i64)]
abbrev ZyM:Rs:=Rs.one (Sh.one (R.int u8))
def ZA1 (r:TR) (n:Int):RT (Option (Int)):=
 .br (decide (0<=andI i64 n 7/\andI i64 n 7<8)) (.Lf (some (bif andI i64 n 7==0 then r.2.1 else bif andI i64 n 7== ↑(0+1) then r.2.2.1 else bif andI i64 n 7== ↑(0+1+1) then r.2.2.2.1 else bif andI i64 n 7== ↑(0+1+1+1) then r.2.2.2.2.1 else bif andI i64 n 7== ↑(0+1+1+1+1) then r.2.2.2.2.2.1 else bif andI i64 n 7== ↑(0+1+1+1+1+1) then r.2.2.2.2.2.2.1 else bif andI i64 n 7== ↑(0+1+1+1+1+1+1) then 0 else r.1))) (.Lf none)
def rGet (r:TR) (n:Int):Int:=getO ZyM.Df (ZA1 r n).val
def ZvX (r:TR) (n:Int):Bool:=okB (ZA1 r n).val
def ZNB:En:=Zi ZEV ZyM (λa=>some (ZvX a.1 a.2)) (λa=>rGet a.1 a.2)
theorem ZEU:Zd prog 311 ZNB:=
 pureP 31 [] [] ZEV ZyM trivial Tryz.func311 Tryz.call311 trivial (t:=λa=>ZA1 a.1 a.2)
abbrev ZJ3:List Sh:=[Sh.agg ZjY,Sh.one (R.int i64),Sh.one (R.int u8)]
abbrev ZJ4:Rs:=Rs.one (Sh.agg ZjY)
def ZNm (r:TR) (n:Int) (v:Int):RT TR:=
 .Lf ((bif andI i64 n 7==0 then r.1 else bif andI i64 n 7==1 then r.1 else bif andI i64 n 7==2 then r.1 else bif andI i64 n 7==3 then r.1 else bif andI i64 n 7==4 then r.1 else bif andI i64 n 7==5 then r.1 else bif andI i64 n 7==7 then v else r.1,bif andI i64 n 7==0 then v else r.2.1,bif andI i64 n 7==0 then r.2.2.1 else bif andI i64 n 7==1 then v else r.2.2.1,bif andI i64 n 7==0 then r.2.2.2.1 else bif andI i64 n 7==1 then r.2.2.2.1 else bif andI i64 n 7==2 then v else r.2.2.2.1,bif andI i64 n 7==0 then r.2.2.2.2.1 else bif andI i64 n 7==1 then r.2.2.2.2.1 else bif andI i64 n 7==2 then r.2.2.2.2.1 else bif andI i64 n 7==3 then v else r.2.2.2.2.1,bif andI i64 n 7==0 then r.2.2.2.2.2.1 else bif andI i64 n 7==1 then r.2.2.2.2.2.1 else bif andI i64 n 7==2 then r.2.2.2.2.2.1 else bif andI i64 n 7==3 then r.2.2.2.2.2.1 else bif andI i64 n 7==4 then v else r.2.2.2.2.2.1,bif andI i64 n 7==0 then r.2.2.2.2.2.2.1 else bif andI i64 n 7==1 then r.2.2.2.2.2.2.1 else bif andI i64 n 7==2 then r.2.2.2.2.2.2.1 else bif andI i64 n 7==3 then r.2.2.2.2.2.2.1 else bif andI i64 n 7==4 then r.2.2.2.2.2.2.1 else bif andI i64 n 7==5 then v else r.2.2.2.2.2.2.1,r.2.2.2.2.2.2.2))
def rSet (r:TR) (n:Int) (v:Int):TR:=(ZNm r n v).val
def ZAH:En:=Zi ZJ3 ZJ4 (λ_=>none) (λa=>rSet a.1 a.2.1 a.2.2)
theorem ZuW:Zd prog 312 ZAH:=
 pureQ 9162596991 [] [] ZJ3 ZJ4 trivial Tryz.func312 Tryz.call312 trivial (t:=λa=>ZNm a.1 a.2.1 a.2.2)
abbrev Zu7:List Sh:=[Sh.agg ZjY,Sh.one (R.int i64)]
abbrev ZoI:Rs:=Rs.one (Sh.one (R.int u16))
def ZrY (r:TR) (n:Int):RT (Option (Int)):=
 .br (andI i64 n 3==3) (.Lf (some r.2.2.2.2.2.2.2.2.1)) (.br (!ZvX r (i64.wrap (2*andI i64 n 3))||ZvX r (i64.wrap (i64.wrap (2*andI i64 n 3)+1))) (.br (ZvX r (i64.wrap (2*andI i64 n 3))) (.Lf (some (ZcG (rGet r (i64.wrap (2*andI i64 n 3))) (rGet r (i64.wrap (i64.wrap (2*andI i64 n 3)+1)))))) (.Lf none)) (.Lf none))
def Zae (r:TR) (n:Int):Int:=getO ZoI.Df (ZrY r n).val
def ZEs (r:TR) (n:Int):Bool:=okB (ZrY r n).val
def ZNo:En:=Zi Zu7 ZoI (λa=>some (ZEs a.1 a.2)) (λa=>Zae a.1 a.2)
theorem ZIr:Zd prog 244 ZNo:=
 pureP 31 [(311,ZNB),(325,ZkY)] [] Zu7 ZoI ⟨ZEU,Zg7,Tv⟩ Tryz.func244 Tryz.call244 trivial (t:=λa=>ZrY a.1 a.2)
abbrev Zm2:List Sh:=[Sh.agg ZjY,Sh.one (R.int i64),Sh.one (R.int u16)]
abbrev Zm3:Rs:=Rs.one (Sh.agg ZjY)
def ZgY (r:TR) (n:Int) (v:Int):RT TR:=
 .br (andI i64 n 3==3) (.Lf ((r.1,r.2.1,r.2.2.1,r.2.2.2.1,r.2.2.2.2.1,r.2.2.2.2.2.1,r.2.2.2.2.2.2.1,r.2.2.2.2.2.2.2.1,v,r.2.2.2.2.2.2.2.2.2))) (.Lf (rSet (rSet r (i64.wrap (2*andI i64 n 3)) (u8.wrap (shrI u16 v 8))) (i64.wrap (i64.wrap (2*andI i64 n 3)+1)) (u8.wrap v)))
def Zt (r:TR) (n:Int) (v:Int):TR:=(ZgY r n v).val
def Ze2:En:=Zi Zm2 Zm3 (λ_=>none) (λa=>Zt a.1 a.2.1 a.2.2)
theorem Zj9:Zd prog 313 Ze2:=
 pureQ 127 [(312,ZAH)] [] Zm2 Zm3 ⟨ZuW,Tv⟩ Tryz.func313 Tryz.call313 trivial (t:=λa=>ZgY a.1 a.2.1 a.2.2)
abbrev ZEu:List Sh:=[Sh.one (R.int i64),Sh.agg ZjY]
abbrev ZyA:Rs:=Rs.one (Sh.one (R.int u16))
def ZIt (chip:Int) (r:TR):RT (Option (Int)):=
 .br (Zyz chip r.2.2.2.2.2.2.2.1) (.Lf (some (ZcG r.1 (ZNp chip r.2.2.2.2.2.2.2.1)))) (.Lf none)
def rPSW (chip:Int) (r:TR):Int:=getO ZyA.Df (ZIt chip r).val
def ZLP (chip:Int) (r:TR):Bool:=okB (ZIt chip r).val
def rPSWE:En:=Zi ZEu ZyA (λa=>some (ZLP a.1 a.2)) (λa=>rPSW a.1 a.2)
theorem ZLO:Zd prog 332 rPSWE:=
 pureP 31 [(325,ZkY),(377,ZJ9)] [] ZEu ZyA ⟨Zg7,ZIs,Tv⟩ Tryz.func332 Tryz.call332 trivial (t:=λa=>ZIt a.1 a.2)
abbrev ZrR:List Sh:=[Sh.one (R.int i64),Sh.agg ZjY,Sh.one (R.int u16)]
abbrev ZrS:Rs:=Rs.one (Sh.agg ZjY)
def Zoz (chip:Int) (r:TR) (v:Int):RT TR:=
 .Lf ((u8.wrap (shrI u16 v 8),r.2.1,r.2.2.1,r.2.2.2.1,r.2.2.2.2.1,r.2.2.2.2.2.1,r.2.2.2.2.2.2.1,ZD7 chip (u8.wrap v),r.2.2.2.2.2.2.2.2))
def ZoB (chip:Int) (r:TR) (v:Int):TR:=(Zoz chip r v).val
def ZoA:En:=Zi ZrR ZrS (λ_=>none) (λa=>ZoB a.1 a.2.1 a.2.2)
theorem ZAG:Zd prog 314 ZoA:=
 pureQ 127 [(366,Zx7)] [] ZrR ZrS ⟨ZAE,Tv⟩ Tryz.func314 Tryz.call314 trivial (t:=λa=>Zoz a.1 a.2.1 a.2.2)
abbrev ZNE:List Sh:=[Sh.one (R.int i64),Sh.one (R.int i64),Sh.one (R.int u8),Sh.one (R.int u8),Sh.agg rcF7]
abbrev ZNF:Rs:=Rs.tup [Sh.one (R.int u8),Sh.agg rcF7]
def rDoT (chip:Int) (op:Int) (a:Int) (b:Int) (f:TF):RT (QT3):=
 let x1:=bif andI i64 op 7==0 then andI i64 op 7==0 else andI i64 op 7==1
 let x2:=bif andI i64 op 7==2 then andI i64 op 7==2 else bif andI i64 op 7==3 then andI i64 op 7==3 else andI i64 op 7==7
 let x3:Int:=bif x1 then bif andI i64 op 7==1 then (rSum a b f.2.2.2.2.2.2).1 else (rSum a b false).1 else bif x2 then bif andI i64 op 7==3 then (ZdE a b f.2.2.2.2.2.2).1 else (ZdE a b false).1 else bif andI i64 op 7==4 then bif rOn chip then andI u8 a b else andI u8 a b else bif andI i64 op 7==5 then xorI u8 a b else bif andI i64 op 7==6 then orI u8 a b else 0
 let x4:=rOf x3
 let x5:=x4.2
 let x6:=x5.2
 let x7:=x6.2.2
 let x8:=ZEy chip (x4.1,x5.1,x6.1,bif x1 then bif andI i64 op 7==1 then (rSum a b f.2.2.2.2.2.2).2.2.1 else (rSum a b false).2.2.1 else bif x2 then bif andI i64 op 7==3 then (ZdE a b f.2.2.2.2.2.2).2.2.1 else (ZdE a b false).2.2.1 else andI i64 op 7==4&&(rOn chip||andI u8 (orI u8 a b) 8 !=0),x7.1,x7.2.1,bif x1 then bif andI i64 op 7==1 then (rSum a b f.2.2.2.2.2.2).2.1 else (rSum a b false).2.1 else x2&&bif andI i64 op 7==3 then (ZdE a b f.2.2.2.2.2.2).2.1 else (ZdE a b false).2.1) (rMaj (decide (a>=128)) (bif x1 then decide (b>=128) else bif x2 then !decide (b>=128) else decide (b>=128)) (decide (x3>=128))) (bif x1 then bif andI i64 op 7==1 then (rSum a b f.2.2.2.2.2.2).2.2.2 else (rSum a b false).2.2.2 else x2&&bif andI i64 op 7==3 then (ZdE a b f.2.2.2.2.2.2).2.2.2 else (ZdE a b false).2.2.2)
 .br (andI i64 op 7==7) (.Lf ((a,x8))) (.Lf ((x3,x8)))
def rDo (chip:Int) (op:Int) (a:Int) (b:Int) (f:TF):QT3:=(rDoT chip op a b f).val
def rDoE:En:=Zi ZNE ZNF (λ_=>none) (λa=>rDo a.1 a.2.1 a.2.2.1 a.2.2.2.1 a.2.2.2.2)
theorem ZND:Zd prog 315 rDoE:=
 pureQ 1246707057321695066193919 [(171,rOnE),(367,ZIe),(368,ZyU),(369,rOfE),(370,ZrZ),(371,ZAY)] [] ZNE ZNF ⟨Zdq,ZuS,ZpF,ZyC,Zjg,ZkU,Tv⟩ Tryz.func315 Tryz.call315 trivial (t:=λa=>rDoT a.1 a.2.1 a.2.2.1 a.2.2.2.1 a.2.2.2.2)
abbrev ZKm:List Sh:=[Sh.one (R.int i64),Sh.one (R.int u8),Sh.agg rcF7]
abbrev ZKn:Rs:=Rs.tup [Sh.one (R.int u8),Sh.agg rcF7]
def ZNz (chip:Int) (v:Int) (f:TF):RT (QT3):=
 .Lf (((rSum v 1 false).1,ZEy chip ((rOf (rSum v 1 false).1).1,(rOf (rSum v 1 false).1).2.1,(rOf (rSum v 1 false).1).2.2.1,(rSum v 1 false).2.2.1,(rOf (rSum v 1 false).1).2.2.2.2.1,(rOf (rSum v 1 false).1).2.2.2.2.2.1,f.2.2.2.2.2.2) (rMaj (decide (v>=128)) false (decide ((rSum v 1 false).1>=128))) (rSum v 1 false).2.2.2))
def rInr (chip:Int) (v:Int) (f:TF):QT3:=(ZNz chip v f).val
def ZNA:En:=Zi ZKm ZKn (λ_=>none) (λa=>rInr a.1 a.2.1 a.2.2)
theorem ZLT:Zd prog 372 ZNA:=
 pureQ 8191 [(367,ZIe),(369,rOfE),(370,ZrZ),(371,ZAY)] [] ZKm ZKn ⟨ZuS,ZyC,Zjg,ZkU,Tv⟩ Tryz.func372 Tryz.call372 trivial (t:=λa=>ZNz a.1 a.2.1 a.2.2)
abbrev ZKv:List Sh:=[Sh.one (R.int i64),Sh.one (R.int u8),Sh.agg rcF7]
abbrev ZKw:Rs:=Rs.tup [Sh.one (R.int u8),Sh.agg rcF7]
def ZNH (chip:Int) (v:Int) (f:TF):RT (QT3):=
 .Lf (((ZdE v 1 false).1,ZEy chip ((rOf (ZdE v 1 false).1).1,(rOf (ZdE v 1 false).1).2.1,(rOf (ZdE v 1 false).1).2.2.1,(ZdE v 1 false).2.2.1,(rOf (ZdE v 1 false).1).2.2.2.2.1,(rOf (ZdE v 1 false).1).2.2.2.2.2.1,f.2.2.2.2.2.2) (rMaj (decide (v>=128)) true (decide ((ZdE v 1 false).1>=128))) (ZdE v 1 false).2.2.2))
def rDcr (chip:Int) (v:Int) (f:TF):QT3:=(ZNH chip v f).val
def ZNI:En:=Zi ZKv ZKw (λ_=>none) (λa=>rDcr a.1 a.2.1 a.2.2)
theorem ZL1:Zd prog 373 ZNI:=
 pureQ 8191 [(368,ZyU),(369,rOfE),(370,ZrZ),(371,ZAY)] [] ZKv ZKw ⟨ZpF,ZyC,Zjg,ZkU,Tv⟩ Tryz.func373 Tryz.call373 trivial (t:=λa=>ZNH a.1 a.2.1 a.2.2)
abbrev ZKk:List Sh:=[Sh.one (R.int i64),Sh.one (R.int u16),Sh.agg rcF7]
abbrev ZKl:Rs:=Rs.tup [Sh.one (R.int u16),Sh.agg rcF7]
def ZNy (chip:Int) (v:Int) (f:TF):RT (QT3):=
 .Lf ((u16.wrap (v+1),f.1,f.2.1,bif rOn chip then v==65535 else f.2.2.1,f.2.2.2))
def rInx (chip:Int) (v:Int) (f:TF):QT3:=(ZNy chip v f).val
def ZLS:En:=Zi ZKk ZKl (λ_=>none) (λa=>rInx a.1 a.2.1 a.2.2)
theorem ZLR:Zd prog 317 ZLS:=
 pureQ 255 [(171,rOnE)] [] ZKk ZKl ⟨Zdq,Tv⟩ Tryz.func317 Tryz.call317 trivial (t:=λa=>ZNy a.1 a.2.1 a.2.2)
abbrev ZKt:List Sh:=[Sh.one (R.int i64),Sh.one (R.int u16),Sh.agg rcF7]
abbrev ZKu:Rs:=Rs.tup [Sh.one (R.int u16),Sh.agg rcF7]
def ZNG (chip:Int) (v:Int) (f:TF):RT (QT3):=
 .Lf ((u16.wrap (v-1),f.1,f.2.1,bif rOn chip then v==0 else f.2.2.1,f.2.2.2))
def rDcx (chip:Int) (v:Int) (f:TF):QT3:=(ZNG chip v f).val
def ZL0:En:=Zi ZKt ZKu (λ_=>none) (λa=>rDcx a.1 a.2.1 a.2.2)
theorem ZLZ:Zd prog 318 ZL0:=
 pureQ 255 [(171,rOnE)] [] ZKt ZKu ⟨Zdq,Tv⟩ Tryz.func318 Tryz.call318 trivial (t:=λa=>ZNG a.1 a.2.1 a.2.2)
abbrev ZKx:List Sh:=[Sh.one (R.int i64),Sh.one (R.int u16),Sh.one (R.int u16),Sh.agg rcF7]
abbrev ZKy:Rs:=Rs.tup [Sh.one (R.int u16),Sh.agg rcF7]
def ZNJ (chip:Int) (a:Int) (b:Int) (f:TF):RT (QT3):=
 .Lf ((u16.wrap (a+b),f.1,f.2.1,f.2.2.1,f.2.2.2.1,f.2.2.2.2.1,bif rOn chip then decide (i64.wrap (i64.wrap (IntKind.i16.wrap a)+i64.wrap (IntKind.i16.wrap b))< -32768)||decide (i64.wrap (i64.wrap (IntKind.i16.wrap a)+i64.wrap (IntKind.i16.wrap b))>32767) else f.2.2.2.2.2.1,decide (i64.wrap (i64.wrap a+i64.wrap b)>65535)))
def rDad (chip:Int) (a:Int) (b:Int) (f:TF):QT3:=(ZNJ chip a b f).val
def ZL3:En:=Zi ZKx ZKy (λ_=>none) (λa=>rDad a.1 a.2.1 a.2.2.1 a.2.2.2)
theorem ZL2:Zd prog 319 ZL3:=
 pureQ 2047 [(171,rOnE)] [] ZKx ZKy ⟨Zdq,Tv⟩ Tryz.func319 Tryz.call319 trivial (t:=λa=>ZNJ a.1 a.2.1 a.2.2.1 a.2.2.2)
abbrev ZFc:List Sh:=[Sh.one (R.int u16),Sh.one (R.int u16)]
abbrev ZFd:Rs:=Rs.tup [Sh.one (R.int u16),Sh.agg rcF7]
def ZKr (a:Int) (b:Int):RT (QT3):=
 let x1:=ZdE (u8.wrap (shrI u16 a 8)) (u8.wrap (shrI u16 b 8)) (ZdE (u8.wrap a) (u8.wrap b) false).2.1
 let x2:=x1.1
 let x3:=x2==0
 let x4:=ZcG x2 (ZdE (u8.wrap a) (u8.wrap b) false).1
 let x5:=decide (x2>=128)
 let x6:=rMaj (decide (a>=32768)) (decide (b<32768)) x5
 let x7:=x1.2
 let x8:=x7.2
 let x9:=x8.1
 let x10:=Zkf x2
 let x11:=x8.2
 let x12:=x7.1
 .Lf ((bif x3 then x4 else x4,bif x3 then x5 else x5,x3&&(ZdE (u8.wrap a) (u8.wrap b) false).1==0,bif x3 then x6 else x6,bif x3 then x9 else x9,bif x3 then x10 else x10,bif x3 then x11 else x11,bif x3 then x12 else x12))
def ZIG (a:Int) (b:Int):QT3:=(ZKr a b).val
def ZFe:En:=Zi ZFc ZFd (λ_=>none) (λa=>ZIG a.1 a.2)
theorem ZIF:Zd prog 322 ZFe:=
 pureQ 16383 [(325,ZkY),(368,ZyU),(371,ZAY),(375,ZoH)] [] ZFc ZFd ⟨Zg7,ZpF,ZkU,Zm8,Tv⟩ Tryz.func322 Tryz.call322 trivial (t:=λa=>ZKr a.1 a.2)
abbrev ZKz:List Sh:=[Sh.one (R.int i64),Sh.one (R.int u8),Sh.agg rcF7]
abbrev ZKA:Rs:=Rs.tup [Sh.one (R.int u8),Sh.agg rcF7]
def ZNK (chip:Int) (a:Int) (f:TF):RT (QT3):=
 let x1:Int:=bif f.2.2.2.1||decide (andI u8 a 15>9) then 6 else 0
 let x2:=rSum a (bif f.2.2.2.2.2.2||decide (a>153) then u8.wrap (x1+96) else x1) false
 let x3:=x2.1
 let x4:=rOf x3
 let x5:=x4.2
 let x6:=x5.2
 let x7:=x2.2.2
 let x8:=x6.2.2
 .Lf ((x3,ZEy chip (x4.1,x5.1,x6.1,x7.1,x8.1,x8.2.1,f.2.2.2.2.2.2||decide (a>153)) (rMaj (decide (a>=128)) false (decide (x3>=128))) x7.2))
def rDaa (chip:Int) (a:Int) (f:TF):QT3:=(ZNK chip a f).val
def ZL5:En:=Zi ZKz ZKA (λ_=>none) (λa=>rDaa a.1 a.2.1 a.2.2)
theorem ZL4:Zd prog 320 ZL5:=
 pureQ 32767 [(367,ZIe),(369,rOfE),(370,ZrZ),(371,ZAY)] [] ZKz ZKA ⟨ZuS,ZyC,Zjg,ZkU,Tv⟩ Tryz.func320 Tryz.call320 trivial (t:=λa=>ZNK a.1 a.2.1 a.2.2)
abbrev ZD9:List Sh:=[Sh.one (R.int i64),Sh.one (R.int u8),Sh.one R.bool]
abbrev Zyf:Rs:=Rs.tup [Sh.one (R.int u8),Sh.one R.bool]
def ZIf (op:Int) (a:Int) (c:Bool):RT (Option (Int×Bool)):=
 .br (andI i64 op 3==0||(andI i64 op 3==1||(!andI i64 op 3==2||Zc6 c 0))) (.br (andI i64 op 3==0) (.Lf (some ((orI u8 (shlI u8 a 1) (shrI u8 a 7),decide (a>=128))))) (.br (andI i64 op 3==1) (.Lf (some ((orI u8 (shrI u8 a 1) (shlI u8 a 7),andI u8 a 1==1)))) (.br (andI i64 op 3==2) (.Lf (some ((orI u8 (shlI u8 a 1) (rBit c 0),decide (a>=128))))) (.br (Zc6 c 7) (.Lf (some ((orI u8 (shrI u8 a 1) (rBit c 7),andI u8 a 1==1)))) (.Lf none))))) (.Lf none)
def rRot (op:Int) (a:Int) (c:Bool):Int×Bool:=getO Zyf.Df (ZIf op a c).val
def ZLK (op:Int) (a:Int) (c:Bool):Bool:=okB (ZIf op a c).val
def rRotE:En:=Zi ZD9 Zyf (λa=>some (ZLK a.1 a.2.1 a.2.2)) (λa=>rRot a.1 a.2.1 a.2.2)
theorem ZLJ:Zd prog 321 rRotE:=
 pureP 537396479 [(374,ZIJ)] [] ZD9 Zyf ⟨Zwa,Tv⟩ Tryz.func321 Tryz.call321 trivial (t:=λa=>ZIf a.1 a.2.1 a.2.2)
abbrev ZFr:List Sh:=[Sh.one (R.int u16)]
abbrev ZFs:Rs:=Rs.tup [Sh.one (R.int u16),Sh.one R.bool]
def ZKE (v:Int):RT (Int×Bool):=
 .Lf ((orI u16 (shrI u16 v 1) (andI u16 v 32768),andI u16 v 1==1))
def ZBI (v:Int):Int×Bool:=(ZKE v).val
def ZFt:En:=Zi ZFr ZFs (λ_=>none) (λa=>ZBI a)
theorem ZIK:Zd prog 323 ZFt:=
 pureQ 15 [] [] ZFr ZFs trivial Tryz.func323 Tryz.call323 trivial (t:=λa=>ZKE a)
abbrev Zu2:List Sh:=[Sh.one (R.int u16),Sh.one R.bool]
abbrev ZoD:Rs:=Rs.tup [Sh.one (R.int u16),Sh.one R.bool,Sh.one R.bool]
def Zyn (v:Int) (c:Bool):RT (Option (Int×Bool×Bool)):=
 .br (Zc6 c 0) (.Lf (some ((orI u16 (shlI u16 v 1) (u16.wrap (rBit c 0)),decide (v>=32768),andI u16 (orI u16 (shlI u16 v 1) (u16.wrap (rBit c 0))) 32768 !=andI u16 v 32768)))) (.Lf none)
def ZIk (v:Int) (c:Bool):Int×Bool×Bool:=getO ZoD.Df (Zyn v c).val
def ZEh (v:Int) (c:Bool):Bool:=okB (Zyn v c).val
def ZNn:En:=Zi Zu2 ZoD (λa=>some (ZEh a.1 a.2)) (λa=>ZIk a.1 a.2)
theorem ZIj:Zd prog 324 ZNn:=
 pureP 255 [(374,ZIJ)] [] Zu2 ZoD ⟨Zwa,Tv⟩ Tryz.func324 Tryz.call324 trivial (t:=λa=>Zyn a.1 a.2)
abbrev ZyX:List Sh:=[Sh.one R.bool,Sh.one (R.int i64)]
abbrev ZpI:Rs:=Rs.one (Sh.one (R.int u8))
def Zwb (b:Bool) (n:Int):RT (Option (Int)):=
 .br (decide (0<=n)) (.Lf (some (u8.wrap (shlI i64 (rOne b) n)))) (.Lf none)
def Ze7 (b:Bool) (n:Int):Int:=getO ZpI.Df (Zwb b n).val
def Zaj (b:Bool) (n:Int):Bool:=okB (Zwb b n).val
def ZFp:En:=Zi ZyX ZpI (λa=>some (Zaj a.1 a.2)) (λa=>Ze7 a.1 a.2)
theorem ZFo:Zd prog 326 ZFp:=
 pureP 31 [(376,ZIv)] [] ZyX ZpI ⟨Zu9,Tv⟩ Tryz.func326 Tryz.call326 trivial (t:=λa=>Zwb a.1 a.2)
abbrev ZEb:List Sh:=[Sh.agg ZX,Sh.agg (R.Pq R.bool (R.Pq R.bool rcF7))]
abbrev Zyg:Rs:=Rs.tup [Sh.one (R.int u8),Sh.agg ZX]
def ZEc (c:TC) (l:QT0):RT (Option (Int×TC)):=
 let x1:=bif c.2.2.2.2.2.2.2.2.2.2.1 then c.2.2.2.2.2.2.2.2.2.2.2.1 else c.2.2.1
 .br (!Zaj l.2.2.2.1 7||(!Zaj c.2.2.2.2.2.2.2.1 6||(!Zaj l.2.2.2.2.2.2.1 5||(!Zaj l.2.2.2.2.2.2.2.1 4||Zaj x1 3)))) (.br (!Zaj l.2.2.2.1 7||(!Zaj c.2.2.2.2.2.2.2.1 6||(!Zaj l.2.2.2.2.2.2.1 5||Zaj l.2.2.2.2.2.2.2.1 4))) (.br (!Zaj l.2.2.2.1 7||(!Zaj c.2.2.2.2.2.2.2.1 6||Zaj l.2.2.2.2.2.2.1 5)) (.br (!Zaj l.2.2.2.1 7||Zaj c.2.2.2.2.2.2.2.1 6) (.br (Zaj l.2.2.2.1 7) (.Lf (some ((orI u8 (orI u8 (orI u8 (orI u8 (orI u8 (Ze7 l.2.2.2.1 7) (Ze7 c.2.2.2.2.2.2.2.1 6)) (Ze7 l.2.2.2.2.2.2.1 5)) (Ze7 l.2.2.2.2.2.2.2.1 4)) (Ze7 x1 3)) (andI u8 c.2.2.2.2.2.1 7),c.1,c.2.1,c.2.2.1,c.2.2.2.1,c.2.2.2.2.1,c.2.2.2.2.2.1,c.2.2.2.2.2.2.1,c.2.2.2.2.2.2.2.1,c.2.2.2.2.2.2.2.2.1,c.2.2.2.2.2.2.2.2.2.1,false,false,c.2.2.2.2.2.2.2.2.2.2.2.2)))) (.Lf none)) (.Lf none)) (.Lf none)) (.Lf none)) (.Lf none)
def rRim (c:TC) (l:QT0):Int×TC:=getO Zyg.Df (ZEc c l).val
def ZLM (c:TC) (l:QT0):Bool:=okB (ZEc c l).val
def rRimE:En:=Zi ZEb Zyg (λa=>some (ZLM a.1 a.2)) (λa=>rRim a.1 a.2)
theorem ZLL:Zd prog 245 rRimE:=
 pureP 255 [(326,ZFp)] [] ZEb Zyg ⟨ZFo,Tv⟩ Tryz.func245 Tryz.call245 trivial (t:=λa=>ZEc a.1 a.2)
abbrev ZJ1:List Sh:=[Sh.agg ZX,Sh.one (R.int u8)]
abbrev ZJ2:Rs:=Rs.one (Sh.agg ZX)
def ZLI (c:TC) (a:Int):RT TC:=
 .Lf ((c.1,c.2.1,c.2.2.1,c.2.2.2.1,c.2.2.2.2.1,bif andI u8 a 8 !=0 then andI u8 a 7 else c.2.2.2.2.2.1,c.2.2.2.2.2.2.1,!andI u8 a 16 !=0&&c.2.2.2.2.2.2.2.1,c.2.2.2.2.2.2.2.2.1,c.2.2.2.2.2.2.2.2.2.1,c.2.2.2.2.2.2.2.2.2.2.1,c.2.2.2.2.2.2.2.2.2.2.2.1,bif andI u8 a 64 !=0 then andI u8 a 128 !=0 else c.2.2.2.2.2.2.2.2.2.2.2.2))
def rSim (c:TC) (a:Int):TC:=(ZLI c a).val
def ZNl:En:=Zi ZJ1 ZJ2 (λ_=>none) (λa=>rSim a.1 a.2)
theorem ZLH:Zd prog 246 ZNl:=
 pureQ 31 [] [] ZJ1 ZJ2 trivial Tryz.func246 Tryz.call246 trivial (t:=λa=>ZLI a.1 a.2)
abbrev ZyK:List Sh:=[Sh.one (R.int i64),Sh.agg rcF7]
abbrev ZyL:Rs:=Rs.one (Sh.one R.bool)
def ZES (c:Int) (f:TF):RT (Bool):=
 .br (c==0) (.Lf (!f.2.1)) (.br (c==1) (.Lf f.2.1) (.br (c==2) (.Lf (!f.2.2.2.2.2.2)) (.br (c==3) (.Lf f.2.2.2.2.2.2) (.br (c==4) (.Lf (!f.2.2.2.2.1)) (.br (c==5) (.Lf f.2.2.2.2.1) (.br (c==6) (.Lf (!f.1)) (.br (c==7) (.Lf f.1) (.br (c==8) (.Lf (!f.2.2.1)) (.br (c==9) (.Lf f.2.2.1) (.br (c==10) (.Lf f.2.2.2.2.2.1) (.Lf (c==11))))))))))))
def Zf4 (c:Int) (f:TF):Bool:=(ZES c f).val
def ZET:En:=Zi ZyK ZyL (λ_=>none) (λa=>Zf4 a.1 a.2)
theorem ZER:Zd prog 365 ZET:=
 pureQ 2397219371124831 [] [] ZyK ZyL trivial Tryz.func365 Tryz.call365 trivial (t:=λa=>ZES a.1 a.2)
abbrev ZrA:List Sh:=[Sh.one (R.int i64)]
abbrev ZrB:Rs:=Rs.one (Sh.one (R.int u16))
def Zx3 (s:Int):RT (Int):=
 .br (s==1) (.Lf (36)) (.br (s==2) (.Lf (60)) (.br (s==3) (.Lf (52)) (.br (s==4) (.Lf (44)) (.Lf (0)))))
def Zu (s:Int):Int:=(Zx3 s).val
def Zx4:En:=Zi ZrA ZrB (λ_=>none) (λa=>Zu a)
theorem ZAz:Zd prog 237 Zx4:=
 pureQ 1367 [] [] ZrA ZrB trivial Tryz.func237 Tryz.call237 trivial (t:=λa=>Zx3 a)
abbrev ZkZ:List Sh:=[Sh.one (R.int i64)]
abbrev Zk0:Rs:=Rs.one (Sh.one R.bool)
def Zh3 (s:Int):RT (Bool):=
 .Lf (decide (s>=1)&&decide (s<=4))
def Za (s:Int):Bool:=(Zh3 s).val
def ZfD:En:=Zi ZkZ Zk0 (λ_=>none) (λa=>Za a)
theorem Ze6:Zd prog 236 ZfD:=
 pureQ 7 [] [] ZkZ Zk0 trivial Tryz.func236 Tryz.call236 trivial (t:=λa=>Zh3 a)
abbrev ZmZ:List Sh:=[Sh.one (R.int u8)]
abbrev Zm0:Rs:=Rs.tup [Sh.agg (R.Pq (R.int i64) (R.Pq (R.int i64) (R.Pq (R.int i64) (R.Pq (R.int i64) (R.Pq (R.int i64) (R.Pq (R.int i64) (R.Pq (R.int i64) (R.int i64)))))))),Sh.one R.bool]
def ZrN (op:Int):RT (TI×Bool):=
 .br (op==8) (.Lf (((40,1,0,0,0,0,0,0),true))) (.br (op==16) (.Lf (((41,1,0,0,0,0,0,0),true))) (.br (op==24) (.Lf (((42,1,0,0,0,0,0,0),true))) (.br (op==32) (.Lf (((38,1,0,0,0,0,0,0),true))) (.br (op==40) (.Lf (((43,2,0,0,0,0,0,0),true))) (.br (op==48) (.Lf (((39,1,0,0,0,0,0,0),true))) (.br (op==56) (.Lf (((44,2,0,0,0,0,0,0),true))) (.br (op==203) (.Lf (((45,1,0,0,0,0,10,0),true))) (.br (op==217) (.Lf (((46,1,0,0,0,0,0,0),true))) (.br (op==221) (.Lf (((24,3,0,0,0,0,8,0),true))) (.br (op==237) (.Lf (((47,1,0,0,0,0,0,0),true))) (.br (op==253) (.Lf (((24,3,0,0,0,0,9,0),true))) (.Lf (((0,0,0,0,0,0,0,0),false))))))))))))))
def Zox (op:Int):TI×Bool:=(ZrN op).val
def ZrO:En:=Zi ZmZ Zm0 (λ_=>none) (λa=>Zox a)
theorem ZuV:Zd prog 306 ZrO:=
 pureQ 314146179375 [] [] ZmZ Zm0 trivial Tryz.func306 Tryz.call306 trivial (t:=λa=>ZrN a)
abbrev ZEz:List Sh:=[Sh.one (R.int i64),Sh.one (R.int i64),Sh.one (R.int i64),Sh.one (R.int i64)]
abbrev Zva:Rs:=Rs.one (Sh.agg (R.Pq (R.int i64) (R.Pq (R.int i64) (R.Pq (R.int i64) (R.Pq (R.int i64) (R.Pq (R.int i64) (R.Pq (R.int i64) (R.Pq (R.int i64) (R.int i64)))))))))
def ZEA (y:Int) (z:Int) (p:Int) (q:Int):RT (Option TI):=
 let x1:=decide (0<=i64.wrap (y-4)/\i64.wrap (y-4)<4)
 .br (z==0) (.Lf (some ((1,1,0,0,0,0,0,0)))) (.br (z==1) (.br (q==0) (.Lf (some ((4,3,0,0,p,0,0,0)))) (.Lf (some ((18,1,0,0,p,0,0,0))))) (.br (!z==2||((bif y==0 then y==0 else y==2)||((bif y==1 then y==1 else y==3)||x1))) (.br (z==2) (.br (bif y==0 then y==0 else y==2) (.Lf (some ((10,1,0,0,p,0,0,0)))) (.br (bif y==1 then y==1 else y==3) (.Lf (some ((9,1,0,0,p,0,0,0)))) (.Lf (some ((bif i64.wrap (y-4)==0 then 8 else bif i64.wrap (y-4)== ↑(0+1) then 7 else bif i64.wrap (y-4)== ↑(0+1+1) then 6 else 5,3,0,0,0,0,0,0)))))) (.br (!z==3||decide (0<=q/\q<2)) (.br (z==3) (.Lf (some ((bif q==0 then 16 else 17,1,0,0,p,0,0,0)))) (.br (z==4) (.Lf (some ((14,1,y,0,0,0,0,0)))) (.br (z==5) (.Lf (some ((15,1,y,0,0,0,0,0)))) (.br (z==6) (.Lf (some ((3,2,y,0,0,0,0,0)))) (.br (decide (y<4)) (.Lf (some ((23,1,0,0,0,y,0,0)))) (.br (x1) (.Lf (some ((bif i64.wrap (y-4)==0 then 19 else bif i64.wrap (y-4)== ↑(0+1) then 20 else bif i64.wrap (y-4)== ↑(0+1+1) then 21 else 22,1,0,0,0,0,0,0)))) (.Lf none))))))) (.Lf none))) (.Lf none)))
def ZNt (y:Int) (z:Int) (p:Int) (q:Int):QT5:=getO Zva.Df (ZEA y z p q).val
def ZKe (y:Int) (z:Int) (p:Int) (q:Int):Bool:=okB (ZEA y z p q).val
def ZKd:En:=Zi ZEz Zva (λa=>some (ZKe a.1 a.2.1 a.2.2.1 a.2.2.2)) (λa=>ZNt a.1 a.2.1 a.2.2.1 a.2.2.2)
theorem ZIw:Zd prog 307 ZKd:=
 pureP 19211217472071167 [] [] ZEz Zva trivial Tryz.func307 Tryz.call307 trivial (t:=λa=>ZEA a.1 a.2.1 a.2.2.1 a.2.2.2)
abbrev ZyB:List Sh:=[Sh.one (R.int i64),Sh.one (R.int i64),Sh.one (R.int i64),Sh.one (R.int i64)]
abbrev ZoJ:Rs:=Rs.one (Sh.agg (R.Pq (R.int i64) (R.Pq (R.int i64) (R.Pq (R.int i64) (R.Pq (R.int i64) (R.Pq (R.int i64) (R.Pq (R.int i64) (R.Pq (R.int i64) (R.int i64)))))))))
def Zvb (y:Int) (z:Int) (p:Int) (q:Int):RT (Option TI):=
 .br (z==0) (.Lf (some ((26,1,0,0,0,0,y,0)))) (.br (z==1) (.br (q==0) (.Lf (some ((31,1,0,0,p,0,0,0)))) (.br (y==5) (.Lf (some ((28,1,0,0,0,0,0,0)))) (.br (y==7) (.Lf (some ((29,1,0,0,0,0,0,0)))) (.Lf (some ((26,1,0,0,0,0,11,0))))))) (.br (z==2||(!z==3||((bif y==0 then y==0 else y==1)||(y==2||(y==3||decide (0<=i64.wrap (y-4)/\i64.wrap (y-4)<4)))))) (.br (z==2) (.Lf (some ((24,3,0,0,0,0,y,0)))) (.br (z==3) (.br (bif y==0 then y==0 else y==1) (.Lf (some ((24,3,0,0,0,0,11,0)))) (.br (y==2) (.Lf (some ((34,2,0,0,0,0,0,0)))) (.br (y==3) (.Lf (some ((33,2,0,0,0,0,0,0)))) (.Lf (some ((bif i64.wrap (y-4)==0 then 32 else bif i64.wrap (y-4)== ↑(0+1) then 11 else bif i64.wrap (y-4)== ↑(0+1+1) then 36 else 35,1,0,0,0,0,0,0))))))) (.br (z==4) (.Lf (some ((25,3,0,0,0,0,y,0)))) (.br (z==5) (.br (q==0) (.Lf (some ((30,1,0,0,p,0,0,0)))) (.Lf (some ((25,3,0,0,0,0,11,0))))) (.br (z==6) (.Lf (some ((13,2,0,0,0,y,0,0)))) (.Lf (some ((27,1,0,0,0,0,0,y))))))))) (.Lf none)))
def ZKf (y:Int) (z:Int) (p:Int) (q:Int):QT5:=getO ZoJ.Df (Zvb y z p q).val
def ZED (y:Int) (z:Int) (p:Int) (q:Int):Bool:=okB (Zvb y z p q).val
def ZEC:En:=Zi ZyB ZoJ (λa=>some (ZED a.1 a.2.1 a.2.2.1 a.2.2.2)) (λa=>ZKf a.1 a.2.1 a.2.2.1 a.2.2.2)
theorem ZEB:Zd prog 308 ZEC:=
 pureP 2324988294374376959 [] [] ZyB ZoJ trivial Tryz.func308 Tryz.call308 trivial (t:=λa=>Zvb a.1 a.2.1 a.2.2.1 a.2.2.2)
abbrev Zg9:List Sh:=[Sh.one (R.int i64),Sh.one (R.int u8)]
abbrev Zha:Rs:=Rs.one (Sh.agg (R.Pq (R.int i64) (R.Pq (R.int i64) (R.Pq (R.int i64) (R.Pq (R.int i64) (R.Pq (R.int i64) (R.Pq (R.int i64) (R.Pq (R.int i64) (R.int i64)))))))))
def Zex (chip:Int) (op:Int):RT (Option TI):=
 .br ((Zox op).2&&rOn chip) (.Lf (some (Zox op).1)) (.br (!shrI u8 op 6==0||ZKe (i64.wrap (andI u8 (shrI u8 op 3) 7)) (i64.wrap (andI u8 op 7)) (shrI i64 (i64.wrap (andI u8 (shrI u8 op 3) 7)) 1) (andI i64 (i64.wrap (andI u8 (shrI u8 op 3) 7)) 1)) (.br (shrI u8 op 6==0) (.Lf (some (ZNt (i64.wrap (andI u8 (shrI u8 op 3) 7)) (i64.wrap (andI u8 op 7)) (shrI i64 (i64.wrap (andI u8 (shrI u8 op 3) 7)) 1) (andI i64 (i64.wrap (andI u8 (shrI u8 op 3) 7)) 1)))) (.br (shrI u8 op 6==1) (.br (op==118) (.Lf (some ((37,1,0,0,0,0,0,0)))) (.Lf (some ((2,1,i64.wrap (andI u8 (shrI u8 op 3) 7),i64.wrap (andI u8 op 7),0,0,0,0))))) (.br (shrI u8 op 6==2) (.Lf (some ((12,1,0,i64.wrap (andI u8 op 7),0,i64.wrap (andI u8 (shrI u8 op 3) 7),0,0)))) (.br (ZED (i64.wrap (andI u8 (shrI u8 op 3) 7)) (i64.wrap (andI u8 op 7)) (shrI i64 (i64.wrap (andI u8 (shrI u8 op 3) 7)) 1) (andI i64 (i64.wrap (andI u8 (shrI u8 op 3) 7)) 1)) (.Lf (some (ZKf (i64.wrap (andI u8 (shrI u8 op 3) 7)) (i64.wrap (andI u8 op 7)) (shrI i64 (i64.wrap (andI u8 (shrI u8 op 3) 7)) 1) (andI i64 (i64.wrap (andI u8 (shrI u8 op 3) 7)) 1)))) (.Lf none))))) (.Lf none))
def Zc (chip:Int) (op:Int):QT5:=getO Zha.Df (Zex chip op).val
def Zjj (chip:Int) (op:Int):Bool:=okB (Zex chip op).val
def ZIH:En:=Zi Zg9 Zha (λa=>some (Zjj a.1 a.2)) (λa=>Zc a.1 a.2)
theorem ZBG:Zd prog 238 ZIH:=
 pureP 70644158956031 [(171,rOnE),(306,ZrO),(307,ZKd),(308,ZEC)] [] Zg9 Zha ⟨Zdq,ZuV,ZIw,ZEB,Tv⟩ Tryz.func238 Tryz.call238 trivial (t:=λa=>Zex a.1 a.2)
theorem ZFA (b:Int) (h:inR .u8 b):ZpX b=true/\Zwk b=Zkf b:=by have h1:=ZhH (λb=>ZpX b&&(Zwk b==Zkf b)) (by kernel_rfl) b h;simpa using h1
theorem Zon (b:Bool) (n:Int) (h:0<=n):Zc6 b n=true/\rBit b n=bif b then shlI .u8 1 n else 0:=by cases b<;>simp[Zc6,rBit,ZII,RT.val,h,okB,getO]
theorem Zcm (chip:Int):rOn chip=(chip==2):=rfl
theorem ZLy (chip:Int) (f):Zyz chip f=true:=by cases h:chip==2<;>simp[Zyz,Zyy,RT.val,Zon,Zcm,okB,h]
theorem of_eq (r:Int) (h:inR .u8 r):pOf r=rOf r:=by simp[pOf,pOfT,rOf,rOfT,RT.val,ZFA r h,getO]
theorem ZOb (r) (n:Int):ZvX r n=true:=by
 have:=and7 n;have h:decide (0<=andI .i64 n 7/\andI .i64 n 7<8)=true:=by simp;omega
 simp only[ZvX,ZA1,RT.val,h,Ya,okB]
theorem ZLx (r) (n:Int):ZEs r n=true:=by simp only[ZEs,ZrY,RT.val,ZOb];cases andI .i64 n 3==3<;>simp[okB]
theorem ZNf (chip:Int) (r):ZLP chip r=true:=by simp[ZLP,ZIt,RT.val,ZLy,okB]
theorem ZNe (op a:Int) (c:Bool):ZLK op a c=true:=by
 have h3:=and3 op;simp only[ZLK,ZIf,RT.val,(Zon c 0 (by decide)).1,(Zon c 7 (by decide)).1];generalize andI .i64 op 3=m at*;have:m=0\/m=1\/m=2\/m=3:=by omega
 rcases this with rfl|rfl|rfl|rfl<;>rfl
theorem ZLw (v:Int) (c:Bool):ZEh v c=true:=by have hb:=Zon c 0 (by decide);simp[ZEh,Zyn,RT.val,hb.1,okB]
theorem ZL9 (c l):ZNP c l=true/\pRim c l=rRim c l/\ZLM c l=true:=by
 have h:∀b n,0<=n->ZcH b n=true/\Zwi b n=bif b then shlI .u8 1 n else 0:=λb n h=>by cases b<;>simp[ZcH,Zwi,ZFB,RT.val,h,okB,getO]
 have h3:∀b,Zaj b 3=true/\Ze7 b 3=bif b then shlI .u8 1 3 else 0:=λb=>by cases b<;>exact⟨rfl,rfl⟩
 have h4:∀b,Zaj b 4=true/\Ze7 b 4=bif b then shlI .u8 1 4 else 0:=λb=>by cases b<;>exact⟨rfl,rfl⟩
 have h5:∀b,Zaj b 5=true/\Ze7 b 5=bif b then shlI .u8 1 5 else 0:=λb=>by cases b<;>exact⟨rfl,rfl⟩
 have h6:∀b,Zaj b 6=true/\Ze7 b 6=bif b then shlI .u8 1 6 else 0:=λb=>by cases b<;>exact⟨rfl,rfl⟩
 have h7:∀b,Zaj b 7=true/\Ze7 b 7=bif b then shlI .u8 1 7 else 0:=λb=>by cases b<;>exact⟨rfl,rfl⟩
 simp[ZNP,pRim,ZMf,ZLM,rRim,ZEc,RT.val,h,h3,h4,h5,h6,h7,okB,getO]
theorem ZFy (chip op:Int) (h:chip≠2):(ZfH chip op).val=(ZfH 0 op).val:=by
 have h1:(chip==2)=false:=by simpa using h
 have h0:((0:Int)==2)=false:=rfl;simp only[ZfH,RT.val,h1,h0]
theorem Zrw (chip op:Int) (h:chip≠2):(Zex chip op).val=(Zex 0 op).val:=by
 have h1:rOn chip=false:=by simpa [Zcm] using h
 have h0:rOn 0=false:=rfl;simp only[Zex,RT.val,h1,h0]
def decT (chip op:Int):Bool:=okB (ZfH chip op).val&&okB (Zex chip op).val&&(Zp0 chip op==Zc chip op)
theorem dec_ok (chip op:Int) (h:inR .u8 op):ZpZ chip op=true/\Zp0 chip op=Zc chip op/\Zjj chip op=true:=by
 have fin:∀c,decT c op=true->ZpZ c op=true/\Zp0 c op=Zc c op/\Zjj c op=true:=by intro c hc;simp only[decT,Yc,beq_iff_eq] at hc;exact⟨hc.1.1,hc.2,hc.1.2⟩
 by_cases hc:chip=2
 ·subst hc;exact fin 2 (ZhH (decT 2) (by kernel_rfl) op h)
 ·have:=fin 0 (ZhH (decT 0) (by kernel_rfl) op h);unfold ZpZ Zp0 Zc Zjj at this|-;rw[ZFy chip op hc,Zrw chip op hc];exact this
def Zk1:En:=Zi ZEV ZyM (λ_=>none) (λa=>rGet a.1 a.2)
theorem Zo1:Zd prog 311 Zk1:=ZEU.tot (λa h=>by have h1:=ZOb a.1 a.2;simp[h1]) (λa h=>rfl)
def Ze3:En:=Zi Zu7 ZoI (λ_=>none) (λa=>Zae a.1 a.2)
theorem Zg5:Zd prog 244 Ze3:=ZIr.tot (λa h=>by have h1:=ZLx a.1 a.2;simp[h1]) (λa h=>rfl)
def ZEv:En:=Zi ZEu ZyA (λ_=>none) (λa=>rPSW a.1 a.2)
theorem ZIu:Zd prog 332 ZEv:=ZLO.tot (λa h=>by have h1:=ZNf a.1 a.2;simp[h1]) (λa h=>rfl)
def ZEa:En:=Zi ZD9 Zyf (λ_=>none) (λa=>rRot a.1 a.2.1 a.2.2)
theorem ZIg:Zd prog 321 ZEa:=ZLJ.tot (λa h=>by have h1:=ZNe a.1 a.2.1 a.2.2;simp[h1]) (λa h=>rfl)
def Zu3:En:=Zi Zu2 ZoD (λ_=>none) (λa=>ZIk a.1 a.2)
theorem ZEi:Zd prog 324 Zu3:=ZIj.tot (λa h=>by have h1:=ZLw a.1 a.2;simp[h1]) (λa h=>rfl)
def ZJ5:En:=Zi ZEb Zyg (λ_=>none) (λa=>rRim a.1 a.2)
theorem ZIh:Zd prog 245 ZJ5:=ZLL.tot (λa h=>by have h1:=(ZL9 a.1 a.2).2.2;simp[h1]) (λa h=>rfl)
def Zr8:En:=Zi Zg9 Zha (λ_=>none) (λa=>Zc a.1 a.2)
theorem Zk3:Zd prog 238 Zr8:=ZBG.tot (λa h=>by have h1:=(dec_ok a.1 a.2 h.2).2.2;simp[h1]) (λa h=>rfl)
abbrev ZN9:R:=R.Pq (.int .i64) (R.Pq (.int .i64) (R.Pq (.int .i64) (R.Pq (.int .i64) (R.Pq (.int .i64) (R.Pq (.int .i64) (.int .i64))))))
def ZFh (k:Int):En:=pinE Zg9 ZN9 (λa=>Zc a.1 a.2) k
theorem ZyV (k:Int):Zd Tryz.prog 238 (ZFh k):=ZMd Zk3 k
def pcOf (c:TC):Int:=c.2.1.2.2.2.2.2.2.2.2.2
def spOf (c:TC):Int:=c.2.1.2.2.2.2.2.2.2.2.1
def rgx (r:TR) (f:TF) (sp pc:Int):TR:=(r.1,r.2.1,r.2.2.1,r.2.2.2.1,r.2.2.2.2.1,r.2.2.2.2.2.1,r.2.2.2.2.2.2.1,f,sp,pc)
def fin3 (g:List Int) (l:List TY):RT (Option (TY×Bool)):=.br (decide (iN (List.length g)>=iN (List.length l))) (.Lf (some (((0,0,0,0),false)))) (.br (Ze (iN (List.length g)) (List.length l)) (.Lf (some ((R.get RY l (iN (List.length g)),true)))) (.Lf none))
def ZBU (s:Int):RT (Bool):=
 .Lf (decide (s>=1)&&decide (s<=4))
def Zh (s:Int):Bool:=(ZBU s).val
abbrev qAtRs:Rs:=Rs.one (Sh.one (R.int u8))
def qAtT (s:QT1) (n:Int):RT (Option (Int)):=
 .br (!decide (n< ↑(List.length s.2.2.1))||Ze n (List.length s.2.2.1)) (.br (decide (n< ↑(List.length s.2.2.1))) (.Lf (some (R.get (R.int u8) s.2.2.1 n))) (.Lf (some (0)))) (.Lf none)
def qAt (s:QT1) (n:Int):Int:=getO qAtRs.Df (qAtT s n).val
def qAtC (s:QT1) (n:Int):Bool:=okB (qAtT s n).val
abbrev ZL8:Rs:=Rs.one (Sh.one (R.int u16))
def Zy2 (s:QT1) (n:Int):RT (Option (Int)):=
 .br (!qAtC s (i64.wrap (n+1))||qAtC s n) (.br (qAtC s (i64.wrap (n+1))) (.Lf (some (ZcG (qAt s (i64.wrap (n+1))) (qAt s n)))) (.Lf none)) (.Lf none)
def Zse (s:QT1) (n:Int):Int:=getO ZL8.Df (Zy2 s n).val
def Zhd (s:QT1) (n:Int):Bool:=okB (Zy2 s n).val
def ZIL (s:QT1):RT (Int):=
 .br s.2.1 (.Lf s.1.2.1.2.2.2.2.2.2.2.2.2) (.Lf (u16.wrap (s.1.2.1.2.2.2.2.2.2.2.2.2+u16.wrap s.2.2.2.1.2.1)))
def ZpK (s:QT1):Int:=(ZIL s).val
def ZL7 (s:QT1):RT (Bool):=
 .Lf (Zf4 s.2.2.2.1.2.2.2.2.2.2.1 s.1.2.1.2.2.2.2.2.2.2.1)
def Zsc (s:QT1):Bool:=(ZL7 s).val
def qRegT (s:QT1) (n:Int):RT (Int):=
 .Lf (rGet s.1.2.1 n)
def qReg (s:QT1) (n:Int):Int:=(qRegT s n).val
def ZNL (s:QT1) (n:Int):RT (Int):=
 .Lf (Zae s.1.2.1 n)
def Zk5 (s:QT1) (n:Int):Int:=(ZNL s n).val
abbrev ZBL:Rs:=Rs.one (Sh.one (R.int u8))
def Zk7 (s:QT1):RT (Option (Int)):=
 .br (qAtC s 1) (.Lf (some (bif s.2.2.2.1.1==14 then (rInr s.1.1 (qAt s 1) s.1.2.1.2.2.2.2.2.2.2.1).1 else (rDcr s.1.1 (qAt s 1) s.1.2.1.2.2.2.2.2.2.2.1).1))) (.Lf none)
def Zjm (s:QT1):Int:=getO ZBL.Df (Zk7 s).val
def Zhe (s:QT1):Bool:=okB (Zk7 s).val
abbrev ZBK:Rs:=Rs.one (Sh.one (R.int u8))
def Zk6 (s:QT1):RT (Option (Int)):=
 let x1:=s.2.2.2.1.1==13||s.2.2.2.1.2.2.2.1==6
 .br (!x1||qAtC s 1) (.br (x1) (.Lf (some (qAt s 1))) (.Lf (some (qReg s s.2.2.2.1.2.2.2.1)))) (.Lf none)
def Zy1 (s:QT1):Int:=getO ZBK.Df (Zk6 s).val
def Zsd (s:QT1):Bool:=okB (Zk6 s).val
abbrev ZN0:R:=R.Pq ZX (R.Pq R.bool (R.Pq (R.sl (R.int u8)) (R.sl (RY))))
abbrev ZNZ:List Sh:=[Sh.one (R.int i64)]
abbrev ZMv:Rs:=Rs.one (Sh.one (R.int u8))
def mAtT (s:QT2) (n:Int):RT (Option (Int)):=
 .br (!decide (n< ↑(List.length s.2.2.1))||Ze n (List.length s.2.2.1)) (.br (decide (n< ↑(List.length s.2.2.1))) (.Lf (some (R.get (R.int u8) s.2.2.1 n))) (.Lf (some (0)))) (.Lf none)
def mAt (s:QT2) (n:Int):Int:=getO ZMv.Df (mAtT s n).val
def mAtC (s:QT2) (n:Int):Bool:=okB (mAtT s n).val
def mAtE:En:=ZuK ZN0 ZNZ ZMv (λa=>some (mAtC a.1 a.2)) (λa=>mAt a.1 a.2)
theorem Ztk:Zd prog 239 mAtE:=
 Zru (P:=prog) (n:=31) (k:=8) (l:=[]) (ol:=[]) trivial Tryz.func239 rfl (by kernel_rfl) Tryz.call239 trivial (rb:=ZN0) (ts:=ZNZ) (rs:=ZMv) (by kernel_rfl) (t:=λa=>mAtT a.1 a.2) (λa=>by kernel_rfl)
abbrev ZGe:R:=R.Pq ZX (R.Pq R.bool (R.Pq (R.sl (R.int u8)) (R.sl (RY))))
abbrev ZGd:List Sh:=[Sh.one (R.int i64)]
abbrev ZwL:Rs:=Rs.one (Sh.one (R.int u16))
def Zzz (s:QT2) (n:Int):RT (Option (Int)):=
 .br (!mAtC s (i64.wrap (n+1))||mAtC s n) (.br (mAtC s (i64.wrap (n+1))) (.Lf (some (ZcG (mAt s (i64.wrap (n+1))) (mAt s n)))) (.Lf none)) (.Lf none)
def ZdW (s:QT2) (n:Int):Int:=getO ZwL.Df (Zzz s n).val
def ZbM (s:QT2) (n:Int):Bool:=okB (Zzz s n).val
def ZlF:En:=ZuK ZGe ZGd ZwL (λa=>some (ZbM a.1 a.2)) (λa=>ZdW a.1 a.2)
theorem Zqg:Zd prog 310 ZlF:=
 Zru (P:=prog) (n:=31) (k:=8) (l:=[(239,mAtE),(325,ZkY)]) (ol:=[]) ⟨Ztk,Zg7,Tv⟩ Tryz.func310 rfl (by kernel_rfl) Tryz.call310 trivial (rb:=ZGe) (ts:=ZGd) (rs:=ZwL) (by kernel_rfl) (t:=λa=>Zzz a.1 a.2) (λa=>by kernel_rfl)
abbrev Ztj:R:=R.Pq ZX (R.Pq R.bool (R.Pq (R.sl (R.int u8)) (R.sl (RY))))
abbrev Zth:List Sh:=[Sh.one (R.int i64)]
abbrev Zti:Rs:=Rs.one (Sh.one (R.int u16))
def ZzF (s:QT2) (n:Int):RT (Int):=
 .br s.2.1 (.Lf s.1.2.1.2.2.2.2.2.2.2.2.2) (.Lf (u16.wrap (s.1.2.1.2.2.2.2.2.2.2.2.2+u16.wrap n)))
def Zq (s:QT2) (n:Int):Int:=(ZzF s n).val
def ZfP:En:=ZuK Ztj Zth Zti (λ_=>none) (λa=>Zq a.1 a.2)
theorem Zij:Zd prog 243 ZfP:=
 Zx0 (P:=prog) (n:=31) (k:=8) (l:=[]) (ol:=[]) trivial Tryz.func243 rfl (by kernel_rfl) Tryz.call243 trivial (rb:=Ztj) (ts:=Zth) (rs:=Zti) (by kernel_rfl) (t:=λa=>ZzF a.1 a.2) (λa=>by kernel_rfl)
abbrev ZzC:R:=R.Pq ZX (R.Pq R.bool (R.Pq (R.sl (R.int u8)) (R.sl (RY))))
abbrev ZzA:List Sh:=[Sh.agg (R.Pq (R.int i64) (R.Pq (R.int i64) (R.Pq (R.int i64) (R.Pq (R.int i64) (R.Pq (R.int i64) (R.Pq (R.int i64) (R.Pq (R.int i64) (R.int i64))))))))]
abbrev ZzB:Rs:=Rs.one (Sh.one R.bool)
def ZGf (s:QT2) (i:QT5):RT (Bool):=
 .Lf (Zf4 i.2.2.2.2.2.2.1 s.1.2.1.2.2.2.2.2.2.2.1)
def ZdM (s:QT2) (i:QT5):Bool:=(ZGf s i).val
def Zgv:En:=ZuK ZzC ZzA ZzB (λ_=>none) (λa=>ZdM a.1 a.2)
theorem ZlG:Zd prog 309 Zgv:=
 Zx0 (P:=prog) (n:=31) (k:=8) (l:=[(365,ZET)]) (ol:=[]) ⟨ZER,Tv⟩ Tryz.func309 rfl (by kernel_rfl) Tryz.call309 trivial (rb:=ZzC) (ts:=ZzA) (rs:=ZzB) (by kernel_rfl) (t:=λa=>ZGf a.1 a.2) (λa=>by kernel_rfl)
abbrev ZmW:List Sh:=[Sh.agg ZX,Sh.agg (R.Pq (R.int i64) (R.Pq (R.int i64) (R.Pq (R.int i64) (R.Pq (R.int i64) (R.Pq (R.int i64) (R.Pq (R.int i64) (R.Pq (R.int i64) (R.int i64)))))))),Sh.one (R.int u8)]
abbrev ZmX:Rs:=Rs.tup [Sh.one (R.int u8),Sh.agg rcF7]
def ZrJ (c:TC) (i:QT5) (v:Int):RT (QT3):=
 .br (i.1==14) (.Lf (rInr c.1 v c.2.1.2.2.2.2.2.2.2.1)) (.Lf (rDcr c.1 v c.2.1.2.2.2.2.2.2.2.1))
def ZfA (c:TC) (i:QT5) (v:Int):QT3:=(ZrJ c i v).val
def Ze0:En:=Zi ZmW ZmX (λ_=>none) (λa=>ZfA a.1 a.2.1 a.2.2)
theorem Zj7:Zd prog 316 Ze0:=
 pureQ 255 [(372,ZNA),(373,ZNI)] [] ZmW ZmX ⟨ZLT,ZL1,Tv⟩ Tryz.func316 Tryz.call316 trivial (t:=λa=>ZrJ a.1 a.2.1 a.2.2)
abbrev ZyP:List Sh:=[Sh.one (R.int i64),Sh.one (R.int u8)]
abbrev ZyQ:Rs:=Rs.one (Sh.one (R.int i64))
def ZvY (chip:Int) (op:Int):RT (Int):=
 let x1:=bif (Zc chip op).1==14 then (Zc chip op).1==14 else (Zc chip op).1==15
 let x2:= !(Zc chip op).1==2&&(!x1&&((bif (Zc chip op).1==16 then (Zc chip op).1==16 else bif (Zc chip op).1==17 then (Zc chip op).1==17 else bif (Zc chip op).1==28 then (Zc chip op).1==28 else bif (Zc chip op).1==29 then (Zc chip op).1==29 else bif (Zc chip op).1==25 then (Zc chip op).1==25 else bif (Zc chip op).1==27 then (Zc chip op).1==27 else bif (Zc chip op).1==30 then (Zc chip op).1==30 else (Zc chip op).1==45)||(Zc chip op).1==26&&(Zc chip op).2.2.2.2.2.2.1 !=11))
 .br (rOn chip&&x2) (.Lf (6)) (.br (rOn chip&&(Zc chip op).1==37) (.Lf (5)) (.br (!rOn chip&&(x2||bif (Zc chip op).1==2 then (Zc chip op).2.2.1 !=6&&(Zc chip op).2.2.2.1 !=6 else x1&&(Zc chip op).2.2.1 !=6)) (.Lf (5)) (.Lf (4))))
def Zg8 (chip:Int) (op:Int):Int:=(ZvY chip op).val
def ZvZ:En:=Zi ZyP ZyQ (λ_=>none) (λa=>Zg8 a.1 a.2)
theorem Zr7:Zd prog 168 ZvZ:=
 pureQ 144687209545474303 [(171,rOnE),(238,Zr8)] [] ZyP ZyQ ⟨Zdq,Zk3,Tv⟩ Tryz.func168 Tryz.call168 trivial (t:=λa=>ZvY a.1 a.2)
abbrev ZyI:List Sh:=[Sh.agg ZX,Sh.agg (R.Pq R.bool (R.Pq R.bool rcF7))]
abbrev ZyJ:Rs:=Rs.one (Sh.agg ZX)
def ZvV (c:TC) (l:QT0):RT TC:=
 .br (!rOn c.1)
 (.Lf (c))
 (.Lf ((c.1,c.2.1,c.2.2.1,c.2.2.2.1,c.2.2.2.2.1,c.2.2.2.2.2.1,l.2.2.2.2.1&&(c.2.2.2.2.2.2.1|| !c.2.2.2.2.2.2.2.2.1),c.2.2.2.2.2.2.2.1||l.2.2.2.2.2.1&& !c.2.2.2.2.2.2.2.2.2.1,l.2.2.2.2.1,l.2.2.2.2.2.1,c.2.2.2.2.2.2.2.2.2.2)))
def Zf (c:TC) (l:QT0):TC:=(ZvV c l).val
def ZkX:En:=Zi ZyI ZyJ (λ_=>none) (λa=>Zf a.1 a.2)
theorem ZkW:Zd prog 187 ZkX:=
 pureQ 31 [(171,rOnE)] [] ZyI ZyJ ⟨Zdq,Tv⟩ Tryz.func187 Tryz.call187 trivial (t:=λa=>ZvV a.1 a.2)
abbrev ZEp:List Sh:=[Sh.agg ZX,Sh.agg (R.Pq R.bool (R.Pq R.bool rcF7))]
abbrev ZEq:Rs:=Rs.one (Sh.one (R.int i64))
def ZJ8 (c:TC) (l:QT0):RT (Int):=
 .br (rOn c.1&&c.2.2.2.2.2.2.1)
 (.Lf (1))
 (.br (!c.2.2.1||c.2.2.2.1)
  (.Lf (0))
  (.br (rOn c.1&&(c.2.2.2.2.2.2.2.1&&andI u8 c.2.2.2.2.2.1 4==0))
  (.Lf (2))
  (.br (rOn c.1&&(l.2.2.2.2.2.2.1&&andI u8 c.2.2.2.2.2.1 2==0))
   (.Lf (3))
   (.br (rOn c.1&&(l.2.2.2.2.2.2.2.1&&andI u8 c.2.2.2.2.2.1 1==0))
   (.Lf (4))
   (.br l.2.2.2.2.2.2.2.2
    (.Lf (5))
    (.Lf (0)))))))
def Zc5 (c:TC) (l:QT0):Int:=(ZJ8 c l).val
def ZEr:En:=Zi ZEp ZEq (λ_=>none) (λa=>Zc5 a.1 a.2)
theorem Zyw:Zd prog 261 ZEr:=
 pureQ 576601524159939135 [(171,rOnE)] [] ZEp ZEq ⟨Zdq,Tv⟩ Tryz.func261 Tryz.call261 trivial (t:=λa=>ZJ8 a.1 a.2)
abbrev Zsa:List Sh:=[Sh.agg ZX,Sh.one (R.int i64)]
abbrev Zsb:Rs:=Rs.one (Sh.agg ZX)
def Zjl (c:TC) (s:Int):RT TC:=
 .br (decide (s<1)||decide (s>5))
 (.Lf (c))
 (.Lf ((c.1,c.2.1,false,false,false,c.2.2.2.2.2.1,!s==1&&c.2.2.2.2.2.2.1,!s==2&&c.2.2.2.2.2.2.2.1,c.2.2.2.2.2.2.2.2.1,c.2.2.2.2.2.2.2.2.2.1,s==1||c.2.2.2.2.2.2.2.2.2.2.1,bif s==1 then c.2.2.1 else c.2.2.2.2.2.2.2.2.2.2.2.1,c.2.2.2.2.2.2.2.2.2.2.2.2)))
def Zx (c:TC) (s:Int):TC:=(Zjl c s).val
def Zy0:En:=Zi Zsa Zsb (λ_=>none) (λa=>Zx a.1 a.2)
theorem ZBJ:Zd prog 163 Zy0:=
 pureQ 31 [] [] Zsa Zsb trivial Tryz.func163 Tryz.call163 trivial (t:=λa=>Zjl a.1 a.2)
abbrev Zyh:List Sh:=[Sh.agg ZX]
abbrev Zyi:Rs:=Rs.one (Sh.agg ZX)
def Zkc (c:TC):RT TC:=
 .Lf ((c.1,(c.2.1.1,c.2.1.2.1,c.2.1.2.2.1,c.2.1.2.2.2.1,c.2.1.2.2.2.2.1,c.2.1.2.2.2.2.2.1,c.2.1.2.2.2.2.2.2.1,c.2.1.2.2.2.2.2.2.2.1,c.2.1.2.2.2.2.2.2.2.2.1,0),false,false,false,bif rOn c.1 then 7 else 0,false,false,false,false,false,false,false))
def ZT (c:TC):TC:=(Zkc c).val
def ZuY:En:=Zi Zyh Zyi (λ_=>none) (λa=>ZT a)
theorem ZrU:Zd prog 96 ZuY:=
 pureQ 15 [(171,rOnE)] [] Zyh Zyi ⟨Zdq,Tv⟩ Tryz.func96 Tryz.call96 trivial (t:=λa=>Zkc a)
abbrev Zyj:List Sh:=[Sh.one (R.int i64)]
abbrev Zyk:Rs:=Rs.one (Sh.one R.bool)
def ZuZ (k:Int):RT (Bool):=
 .Lf (k==1||(k==2||(k==4||(k==6||(k==8||k==9)))))
def Zba (k:Int):Bool:=(ZuZ k).val
def Zkd:En:=Zi Zyj Zyk (λ_=>none) (λa=>Zba a)
theorem Zg1:Zd prog 167 Zkd:=
 pureQ 7 [] [] Zyj Zyk trivial Tryz.func167 Tryz.call167 trivial (t:=λa=>ZuZ a)
abbrev ZpV:List Sh:=[Sh.one (R.int i64)]
abbrev ZpW:Rs:=Rs.one (Sh.one R.bool)
def Zwj (k:Int):RT (Bool):=
 .br (bif k==1 then k==1 else bif k==2 then k==2 else bif k==4 then k==4 else bif k==6 then k==6 else bif k==8 then k==8 else k==9)
 (.Lf (true))
 (.Lf (false))
def ZFD (k:Int):Bool:=(Zwj k).val
def ZMg:En:=Zi ZpV ZpW (λ_=>none) (λa=>ZFD a)
theorem ZFC:Zd prog 83 ZMg:=
 pureQ 23 [] [] ZpV ZpW trivial Tryz.func83 Tryz.call83 trivial (t:=λa=>Zwj a)
abbrev Zry:List Sh:=[Sh.one (R.int i64)]
abbrev Zrz:Rs:=Rs.one (Sh.one R.bool)
def Zoo (k:Int):RT (Bool):=
 .Lf (k==3||(k==5||k==7))
def ZbF (k:Int):Bool:=(Zoo k).val
def Zop:En:=Zi Zry Zrz (λ_=>none) (λa=>ZbF a)
theorem ZmT:Zd prog 179 Zop:=
 pureQ 7 [] [] Zry Zrz trivial Tryz.func179 Tryz.call179 trivial (t:=λa=>Zoo a)
abbrev Zk9:List Sh:=[Sh.one (R.int i64)]
abbrev Zla:Rs:=Rs.one (Sh.one R.bool)
def ZpT (k:Int):RT (Bool):=
 .Lf (k==3||(k==5||k==7))
def Zwf (k:Int):Bool:=(ZpT k).val
def ZIR:En:=Zi Zk9 Zla (λ_=>none) (λa=>Zwf a)
theorem ZBR:Zd prog 139 ZIR:=
 pureQ 7 [] [] Zk9 Zla trivial Tryz.func139 Tryz.call139 trivial (t:=λa=>ZpT a)
abbrev Zlb:List Sh:=[Sh.one (R.int i64)]
abbrev Zlc:Rs:=Rs.one (Sh.one (R.int u8))
def ZpU (k:Int):RT (Int):=
 .br (k==1)
 (.Lf (162))
 (.br (k==2)
  (.Lf (130))
  (.br (k==4)
  (.Lf (134))
  (.br (k==5)
   (.Lf (4))
   (.br (k==6)
   (.Lf (66))
   (.br (k==7)
    (.Lf (16))
    (.br (k==8)
    (.Lf (35))
    (.br (k==9)
     (.Lf (3))
     (.br (k==10)
     (.Lf (138))
     (.Lf (0))))))))))
def Zwh (k:Int):Int:=(ZpU k).val
def ZIS:En:=Zi Zlb Zlc (λ_=>none) (λa=>Zwh a)
theorem ZBS:Zd prog 212 ZIS:=
 pureQ 1398103 [] [] Zlb Zlc trivial Tryz.func212 Tryz.call212 trivial (t:=λa=>ZpU a)
abbrev ZrK:List Sh:=[Sh.one (R.int i64)]
abbrev ZrL:Rs:=Rs.one (Sh.one (R.int u8))
def Zou (k:Int):RT (Int):=
 .br (k==1)
 (.Lf (162))
 (.br (k==2)
  (.Lf (130))
  (.br (k==4)
  (.Lf (134))
  (.br (k==5)
   (.Lf (4))
   (.br (k==6)
   (.Lf (66))
   (.br (k==7)
    (.Lf (16))
    (.br (k==8)
    (.Lf (35))
    (.br (k==9)
     (.Lf (3))
     (.br (k==10)
     (.Lf (138))
     (.Lf (0))))))))))
def Zh0 (k:Int):Int:=(Zou k).val
def Zx8:En:=Zi ZrK ZrL (λ_=>none) (λa=>Zh0 a)
theorem ZAF:Zd prog 340 Zx8:=
 pureQ 1398103 [] [] ZrK ZrL trivial Tryz.func340 Tryz.call340 trivial (t:=λa=>Zou a)
abbrev Zle:List Sh:=[Sh.one (R.int i64)]
abbrev Zlf:Rs:=Rs.tup [Sh.one R.bool,Sh.one R.bool,Sh.one R.bool]
def ZpY (k:Int):RT (QT28):=
 .br (k==1)
 (.Lf ((false,true,true)))
 (.br (bif k==2 then k==2 else bif k==4 then k==4 else k==11)
  (.Lf ((false,true,false)))
  (.br (bif k==3 then k==3 else k==5)
  (.Lf ((false,false,true)))
  (.br (k==6)
   (.Lf ((true,true,false)))
   (.br (k==7)
   (.Lf ((true,false,true)))
   (.br (bif k==8 then k==8 else bif k==9 then k==9 else k==12)
    (.Lf ((true,true,true)))
    (.Lf ((false,false,false))))))))
def Zwm (k:Int):QT28:=(ZpY k).val
def ZIW:En:=Zi Zle Zlf (λ_=>none) (λa=>Zwm a)
theorem ZBT:Zd prog 211 ZIW:=
 pureQ 692575 [] [] Zle Zlf trivial Tryz.func211 Tryz.call211 trivial (t:=λa=>ZpY a)
abbrev Zr5:List Sh:=[Sh.one (R.int i64)]
abbrev Zr6:Rs:=Rs.tup [Sh.one R.bool,Sh.one R.bool,Sh.one R.bool]
def Zo0 (k:Int):RT (QT28):=
 .br (k==1)
 (.Lf ((false,true,true)))
 (.br (bif k==2 then k==2 else bif k==4 then k==4 else k==11)
  (.Lf ((false,true,false)))
  (.br (bif k==3 then k==3 else k==5)
  (.Lf ((false,false,true)))
  (.br (k==6)
   (.Lf ((true,true,false)))
   (.br (k==7)
   (.Lf ((true,false,true)))
   (.br (bif k==8 then k==8 else bif k==9 then k==9 else k==12)
    (.Lf ((true,true,true)))
    (.Lf ((false,false,false))))))))
def ZdU (k:Int):QT28:=(Zo0 k).val
def ZyH:En:=Zi Zr5 Zr6 (λ_=>none) (λa=>ZdU a)
theorem ZA0:Zd prog 339 ZyH:=
 pureQ 692575 [] [] Zr5 Zr6 trivial Tryz.func339 Tryz.call339 trivial (t:=λa=>Zo0 a)
abbrev Zh8:List Sh:=[Sh.one (R.int i64)]
abbrev Zh9:Rs:=Rs.one (Sh.one R.bool)
def Zhg (k:Int):RT (Bool):=
 .Lf (k !=10&&(k !=11&&k !=12))
def Zjo (k:Int):Bool:=(Zhg k).val
def ZFN:En:=Zi Zh8 Zh9 (λ_=>none) (λa=>Zjo a)
theorem Zwn:Zd prog 189 ZFN:=
 pureQ 7 [] [] Zh8 Zh9 trivial Tryz.func189 Tryz.call189 trivial (t:=λa=>Zhg a)
abbrev Znf:List Sh:=[Sh.one (R.int i64)]
abbrev Zng:Rs:=Rs.one (Sh.one R.bool)
def Zhb (k:Int):RT (Bool):=
 .Lf (k !=10&&(k !=11&&k !=12))
def Zk (k:Int):Bool:=(Zhb k).val
def Zhc:En:=Zi Znf Zng (λ_=>none) (λa=>Zk a)
theorem Zgp:Zd prog 58 Zhc:=
 pureQ 7 [] [] Znf Zng trivial Tryz.func58 Tryz.call58 trivial (t:=λa=>Zhb a)
theorem ZIb (k):ZFD k=Zba k:=by simp[ZFD,Zwj,Zba,ZuZ,RT.val]
theorem ZCt (k):Zwf k=ZbF k:=by simp[Zwf,ZpT,ZbF,Zoo,RT.val]
theorem ZDH (k):Zwh k=Zh0 k:=by simp[Zwh,ZpU,Zh0,Zou,RT.val]
theorem ZGl (k):Zwm k=ZdU k:=by simp[Zwm,ZpY,ZdU,Zo0,RT.val]
theorem ZCq (k):Zjo k=Zk k:=by simp[Zjo,Zhg,Zk,Zhb,RT.val]
def ZfG:En:=Zi ZpV ZpW (λ_=>none) (λa=>Zba a)
theorem Zh7:Zd prog 83 ZfG:=ZFC.tot (λa h=>by simp) (λa h=>ZIb _)
def Zd8:En:=Zi Zk9 Zla (λ_=>none) (λa=>ZbF a)
theorem Zgr:Zd prog 139 Zd8:=ZBR.tot (λa h=>by simp) (λa h=>ZCt _)
def Zld:En:=Zi Zlb Zlc (λ_=>none) (λa=>Zh0 a)
theorem Zwg:Zd prog 212 Zld:=ZBS.tot (λa h=>by simp) (λa h=>ZDH _)
def Zlg:En:=Zi Zle Zlf (λ_=>none) (λa=>ZdU a)
theorem Zwl:Zd prog 211 Zlg:=ZBT.tot (λa h=>by simp) (λa h=>ZGl _)
def Znj:En:=Zi Zh8 Zh9 (λ_=>none) (λa=>Zk a)
theorem ZsT:Zd prog 189 Znj:=Zwn.tot (λa h=>by simp) (λa h=>ZCq _)
def ZbC:En:=.tree (ZaH (envX prog [] [] 7 8) Tryz.f146)
theorem ZdB:Zd prog 146 ZbC:=Zb3 (P:=prog) (n:=7) (k:=8) (l:=[]) (ol:=[]) trivial Tryz.func146 rfl (by kernel_rfl) Tryz.call146 trivial
def Za3:En:=.tree (ZaH (envX prog [] [] 7 8) Tryz.f147)
theorem Zcy:Zd prog 147 Za3:=Zb3 (P:=prog) (n:=7) (k:=8) (l:=[]) (ol:=[]) trivial Tryz.func147 rfl (by kernel_rfl) Tryz.call147 trivial
def Zfm:En:=.tree (ZaH (envX prog [(83,ZfG),(139,Zd8),(146,ZbC),(147,Za3),(211,Zlg)] [] 63 8) Tryz.f148)
theorem Ziz:Zd prog 148 Zfm:=Zb3 (P:=prog) (n:=63) (k:=8) (l:=[(83,ZfG),(139,Zd8),(146,ZbC),(147,Za3),(211,Zlg)]) (ol:=[]) ⟨Zh7,Zgr,ZdB,Zcy,Zwl,Tv⟩ Tryz.func148 rfl (by kernel_rfl) Tryz.call148 trivial
def Zel:En:=.tree (ZaH (envX prog [(83,ZfG),(139,Zd8),(147,Za3),(212,Zld)] [] 63 8) Tryz.f149)
theorem Zgz:Zd prog 149 Zel:=Zb3 (P:=prog) (n:=63) (k:=8) (l:=[(83,ZfG),(139,Zd8),(147,Za3),(212,Zld)]) (ol:=[]) ⟨Zh7,Zgr,Zcy,Zwg,Tv⟩ Tryz.func149 rfl (by kernel_rfl) Tryz.call149 trivial
abbrev ZFE:List Sh:=[Sh.one (R.int i64),Sh.agg (R.Pq (R.int i64) (R.Pq (RY) (R.Pq (R.int u8) (R.Pq (R.int u16) (R.Pq R.bool R.bool)))))]
abbrev ZFG:Rs:=Rs.one (Sh.agg (R.Pq (R.int i64) (R.Pq (R.int u16) (R.Pq (R.int u8) (R.Pq R.bool (R.Pq R.bool (R.Pq R.bool (R.Pq R.bool (R.Pq R.bool (R.Pq R.bool (R.Pq R.bool rcF7)))))))))))
def ZFF (chip:Int) (s:Int×TY×Int×Int×Bool×Bool):RT (QT8):=
 let x1:Int:=bif decide (s.1>=1)&&decide (s.1<=7) then s.2.1.2.1 else 0
 let x2:=s.1==2||(s.1==7||s.1==3)
 let x3:=x2&&ZbF s.2.1.1
 let x4:Int:=bif s.1==3&&Zba s.2.1.1 then s.2.2.1 else bif x3 then s.2.1.2.2.1 else 0
 let x5:=s.1==1&&(s.2.1.1 !=11&&s.2.1.1 !=12)
 .br (chip==2)
 (.Lf ((s.1,x1,bif s.1==1 then u8.wrap s.2.1.2.1 else x4,false,false,false,false,s.1==1,decide (s.1>=1)&&decide (s.1<=7)&&(ZdU s.2.1.1).1,decide (s.1>=1)&&decide (s.1<=7)&&(ZdU s.2.1.1).2.1,decide (s.1>=1)&&decide (s.1<=7)&&(ZdU s.2.1.1).2.2,x2&&(Zba s.2.1.1&& !(s.2.1.1==8||s.2.1.1==9)),x2&&(s.2.1.1==8||s.2.1.1==9),s.2.2.2.2.2,x3,s.1==8,s.1==8||(s.1==9||s.1==10))))
 (.Lf ((s.1,bif s.1==9 then s.2.2.2.1 else x1,bif x5 then Zh0 s.2.1.1 else x4,x5,x2&&Zba s.2.1.1,s.1==7||s.1==9,s.2.2.2.2.1,false,false,false,false,false,false,false,bif s.1==7 then ZbF s.2.1.1 else s.1==3&&ZbF s.2.1.1,s.1==8,s.1==8)))
def ZIU (chip:Int) (s:Int×TY×Int×Int×Bool×Bool):QT8:=(ZFF chip s).val
def ZFH:En:=Zi ZFE ZFG (λ_=>none) (λa=>ZIU a.1 a.2)
theorem ZIT:Zd prog 79 ZFH:=
 pureQ 63 [(83,ZfG),(139,Zd8),(146,ZbC),(147,Za3),(148,Zfm),(149,Zel)] [] ZFE ZFG ⟨Zh7,Zgr,ZdB,Zcy,Ziz,Zgz,Tv⟩ Tryz.func79 Tryz.call79 trivial (t:=λa=>ZFF a.1 a.2)
abbrev ZEn:List Sh:=[Sh.one (R.int i64),Sh.one (R.int i64),Sh.agg (RY),Sh.one (R.int u8),Sh.one R.bool,Sh.one R.bool]
abbrev ZEo:Rs:=Rs.one (Sh.agg (R.Pq (R.int i64) (R.Pq (R.int u16) (R.Pq (R.int u8) (R.Pq R.bool (R.Pq R.bool (R.Pq R.bool (R.Pq R.bool (R.Pq R.bool (R.Pq R.bool (R.Pq R.bool rcF7)))))))))))
def Zg4 (chip:Int) (t:Int) (x:QT11) (d:Int) (i:Bool) (o:Bool):RT (QT8):=
 let x1:QT17:=(!rOn chip&&bif rOn chip then i else i,false,false,false,false,false,false,bif !rOn chip then rOn chip&&o else rOn chip&&o,false,false,rOn chip)
 let x2:=(t==2||(t==7||t==3))&&ZbF x.1
 let x3:Int:=bif t==3&&Zba x.1 then d else bif x2 then x.2.2.1 else 0
 .br (t==8)
 (.Lf ((t,0,0,false,false,false,!rOn chip&&bif rOn chip then i else i,false,false,false,false,false,false,bif !rOn chip then rOn chip&&o else rOn chip&&o,false,true,true)))
 (.br (t==9)
  (.Lf ((t,bif !rOn chip then x.2.1 else 0,0,false,false,!rOn chip,x1)))
  (.br (t==10)
  (.Lf ((t,0,0,false,false,false,x1)))
  (.br (rOn chip)
   (.Lf ((t,x.2.1,bif t==1 then u8.wrap x.2.1 else x3,false,false,false,!rOn chip&&bif rOn chip then i else i,t==1,(ZdU x.1).1,(ZdU x.1).2.1,(ZdU x.1).2.2,(t==2||(t==7||t==3))&&(Zba x.1&& !(x.1==8||x.1==9)),(t==2||(t==7||t==3))&&(x.1==8||x.1==9),bif !rOn chip then rOn chip&&o else rOn chip&&o,x2,false,false)))
   (.Lf ((t,x.2.1,bif t==1&&(x.1 !=11&&x.1 !=12) then Zh0 x.1 else x3,t==1&&(x.1 !=11&&x.1 !=12),(t==2||(t==7||t==3))&&Zba x.1,t==7,!rOn chip&&bif rOn chip then i else i,false,false,false,false,false,false,bif !rOn chip then rOn chip&&o else rOn chip&&o,ZbF x.1&&(t==7||t==3),false,false))))))
def ZaE (chip:Int) (t:Int) (x:QT11) (d:Int) (i:Bool) (o:Bool):QT8:=(Zg4 chip t x d i o).val
def ZJ7:En:=Zi ZEn ZEo (λ_=>none) (λa=>ZaE a.1 a.2.1 a.2.2.1 a.2.2.2.1 a.2.2.2.2.1 a.2.2.2.2.2)
theorem ZIq:Zd prog 259 ZJ7:=
 pureQ 302250189878107155464191 [(167,Zkd),(171,rOnE),(179,Zop),(339,ZyH),(340,Zx8)] [] ZEn ZEo ⟨Zg1,Zdq,ZmT,ZA0,ZAF,Tv⟩ Tryz.func259 Tryz.call259 trivial (t:=λa=>Zg4 a.1 a.2.1 a.2.2.1 a.2.2.2.1 a.2.2.2.2.1 a.2.2.2.2.2)
abbrev ZFk:List Sh:=[Sh.agg (R.Pq ZX (R.Pq (R.int i64) (R.Pq (R.sl (R.int u8)) (R.Pq (RY) (R.Pq (R.int i64) R.bool)))))]
abbrev ZFm:Rs:=Rs.one (Sh.one R.bool)
def ZFl (c:QT4):RT (Bool):=
 let x1:=decide (iN (List.length c.2.2.1)>0)||c.2.1 !=0
 .Lf (bif decide (c.2.2.2.2.1>=2) then decide (c.2.2.2.2.1<=7)||x1 else x1)
def ZdF (c:QT4):Bool:=(ZFl c).val
def Zr9:En:=Zi ZFk ZFm (λ_=>none) (λa=>ZdF a)
theorem ZpH:Zd prog 113 Zr9:=
 pureQ 7 [] [] ZFk ZFm trivial Tryz.func113 Tryz.call113 trivial (t:=λa=>ZFl a)
abbrev ZKJ:List Sh:=[Sh.one (R.int i64)]
abbrev ZKK:Rs:=Rs.one (Sh.one R.bool)
def ZMk (k:Int):RT (Bool):=
 .Lf (Zk k)
def pAcc (k:Int):Bool:=(ZMk k).val
def ZNR:En:=Zi ZKJ ZKK (λ_=>none) (λa=>pAcc a)
theorem ZMj:Zd prog 126 ZNR:=
 pureQ 7 [(189,Znj)] [] ZKJ ZKK ⟨ZsT,Tv⟩ Tryz.func126 Tryz.call126 trivial (t:=λa=>ZMk a)
theorem ZMb (chip t:Int) (h1:1<=t) (h2:t<=10) (x:QT11) (d d' pc:Int) (i o:Bool) (hd:t≠10->d'=d):
  ZIU chip (t,x,d,pc,i,o)=ZaE chip t (bif t==9 then (0,pc,0,0) else x) d' i o:=by
 obtain⟨x1,x2,x3,x4⟩:=x;simp only[ZIU,ZFF,ZaE,Zg4,RT.val,Zcm];generalize (chip==2)=b;have:t=1\/t=2\/t=3\/t=4\/t=5\/t=6\/t=7\/t=8\/t=9\/t=10:=by omega
 by_cases h:t=10
 ·subst h;cases b<;>simp
 ·rw[hd h];rcases this with rfl|rfl|rfl|rfl|rfl|rfl|rfl|rfl|rfl|rfl<;>cases b<;>simp<;>(try cases ZbF x1)<;>(try cases Zba x1)<;>simp
end
end Go.Proofs.YtpnjbfjomebppaaGreat
