import Derived.Test.YtghoimllhpjkjaaGreatS3D
import Derived.Test.YtghoimllhpjkjaaGreatProg
open Go.Proofs.Tryz (prog)
open Go.IntKind (u8 u16 i64)
set_option linter.unusedSimpArgs false
open Go Go.S3 Go.Proofs
set_option linter.unusedVariables false
set_option maxRecDepth 100000
namespace Go.Proofs.YtghoimllhpjkjaaGreat
noncomputable section
abbrev ZLl:Rs:=Rs.one (Sh.one (R.int u8))
def ZET (b:Bool) (n:Int):RT (Option (Int)):=
 .br (!b||decide (0<=n)) (.br (b) (.Lf (some (shlI u8 1 n))) (.Lf (some (0)))) (.Lf none)
def ZvM (b:Bool) (n:Int):Int:=getO ZLl.Df (ZET b n).val
def Zcw (b:Bool) (n:Int):Bool:=okB (ZET b n).val
abbrev ZMS:Rs:=Rs.tup [Sh.one (R.int u8),Sh.agg ZW]
def ZLm (c:TC) (l:QT0):RT (Option (Int×TC)):=
 let x1:=bif c.2.2.2.2.2.2.2.2.2.2.1 then c.2.2.2.2.2.2.2.2.2.2.2.1 else c.2.2.1
 .br (!Zcw l.2.2.2.1 7||(!Zcw c.2.2.2.2.2.2.2.1 6||(!Zcw l.2.2.2.2.2.2.1 5||(!Zcw l.2.2.2.2.2.2.2.1 4||Zcw x1 3)))) (.br (!Zcw l.2.2.2.1 7||(!Zcw c.2.2.2.2.2.2.2.1 6||(!Zcw l.2.2.2.2.2.2.1 5||Zcw l.2.2.2.2.2.2.2.1 4))) (.br (!Zcw l.2.2.2.1 7||(!Zcw c.2.2.2.2.2.2.2.1 6||Zcw l.2.2.2.2.2.2.1 5)) (.br (!Zcw l.2.2.2.1 7||Zcw c.2.2.2.2.2.2.2.1 6) (.br (Zcw l.2.2.2.1 7) (.Lf (some ((orI u8 (orI u8 (orI u8 (orI u8 (orI u8 (ZvM l.2.2.2.1 7) (ZvM c.2.2.2.2.2.2.2.1 6)) (ZvM l.2.2.2.2.2.2.1 5)) (ZvM l.2.2.2.2.2.2.2.1 4)) (ZvM x1 3)) (andI u8 c.2.2.2.2.2.1 7),c.1,c.2.1,c.2.2.1,c.2.2.2.1,c.2.2.2.2.1,c.2.2.2.2.2.1,c.2.2.2.2.2.2.1,c.2.2.2.2.2.2.2.1,c.2.2.2.2.2.2.2.2.1,c.2.2.2.2.2.2.2.2.2.1,false,false,c.2.2.2.2.2.2.2.2.2.2.2.2)))) (.Lf none)) (.Lf none)) (.Lf none)) (.Lf none)) (.Lf none)
def pRim (c:TC) (l:QT0):Int×TC:=getO ZMS.Df (ZLm c l).val
def ZMT (c:TC) (l:QT0):Bool:=okB (ZLm c l).val
def ZLp (op:Int):RT (TI×Bool):=
 .br (op==8) (.Lf (((40,1,0,0,0,0,0,0),true))) (.br (op==16) (.Lf (((41,1,0,0,0,0,0,0),true))) (.br (op==24) (.Lf (((42,1,0,0,0,0,0,0),true))) (.br (op==32) (.Lf (((38,1,0,0,0,0,0,0),true))) (.br (op==40) (.Lf (((43,2,0,0,0,0,0,0),true))) (.br (op==48) (.Lf (((39,1,0,0,0,0,0,0),true))) (.br (op==56) (.Lf (((44,2,0,0,0,0,0,0),true))) (.br (op==203) (.Lf (((45,1,0,0,0,0,10,0),true))) (.br (op==217) (.Lf (((46,1,0,0,0,0,0,0),true))) (.br (op==221) (.Lf (((24,3,0,0,0,0,8,0),true))) (.br (op==237) (.Lf (((47,1,0,0,0,0,0,0),true))) (.br (op==253) (.Lf (((24,3,0,0,0,0,9,0),true))) (.Lf (((0,0,0,0,0,0,0,0),false))))))))))))))
def ZJT (op:Int):TI×Bool:=(ZLp op).val
def ZE2 (op:Int):RT (TI×Bool):=
 .br (bif op==0 then op==0 else bif op==8 then op==8 else bif op==16 then op==16 else bif op==24 then op==24 else bif op==32 then op==32 else bif op==40 then op==40 else bif op==48 then op==48 else op==56) (.Lf (((1,1,0,0,0,0,0,0),true))) (.br (bif op==195 then op==195 else op==203) (.Lf (((24,3,0,0,0,0,11,0),true))) (.br (bif op==201 then op==201 else op==217) (.Lf (((26,1,0,0,0,0,11,0),true))) (.br (bif op==205 then op==205 else bif op==221 then op==221 else bif op==237 then op==237 else op==253) (.Lf (((25,3,0,0,0,0,11,0),true))) (.Lf (((0,0,0,0,0,0,0,0),false))))))
def Zi1 (op:Int):TI×Bool:=(ZE2 op).val
abbrev ZLo:Rs:=Rs.one (Sh.agg (R.Pq (R.int i64) (R.Pq (R.int i64) (R.Pq (R.int i64) (R.Pq (R.int i64) (R.Pq (R.int i64) (R.Pq (R.int i64) (R.Pq (R.int i64) (R.int i64)))))))))
def ZJQ (op:Int):RT (Option TI):=
 let x1:QT23:=(0,0,i64.wrap (andI u8 (shrI u8 op 4) 3),0,0,0)
 let x2:QT16:=(1,x1)
 let x3:=decide (i64.wrap (andI u8 (shrI u8 op 3) 7)<4)&&andI u8 op 8 !=0
 let x4:=decide (0<=i64.wrap (i64.wrap (andI u8 (shrI u8 op 3) 7)-4)/\i64.wrap (i64.wrap (andI u8 (shrI u8 op 3) 7)-4)<4)
 let x5:=i64.wrap (i64.wrap (andI u8 (shrI u8 op 3) 7)-4)==0
 let x6:=i64.wrap (i64.wrap (andI u8 (shrI u8 op 3) 7)-4)== ↑(0+1)
 let x7:=i64.wrap (i64.wrap (andI u8 (shrI u8 op 3) 7)-4)== ↑(0+1+1)
 let x8:QT23:=(i64.wrap (andI u8 (shrI u8 op 3) 7),0,0,0,0,0)
 let x9:QT16:=(1,x8)
 .br (andI u8 op 7==1) (.br (andI u8 op 8 !=0) (.Lf (some ((18,x2)))) (.Lf (some ((4,3,x1))))) (.br (!andI u8 op 7==2||(x3||(decide (i64.wrap (andI u8 (shrI u8 op 3) 7)<4)||x4))) (.br (andI u8 op 7==2) (.br (x3) (.Lf (some ((9,x2)))) (.br (decide (i64.wrap (andI u8 (shrI u8 op 3) 7)<4)) (.Lf (some ((10,x2)))) (.Lf (some ((bif x5 then 8 else bif x6 then 7 else bif x7 then 6 else 5,3,0,0,0,0,0,0)))))) (.br (andI u8 op 7==3) (.br (andI u8 op 8 !=0) (.Lf (some ((17,x2)))) (.Lf (some ((16,x2))))) (.br (andI u8 op 7==4) (.Lf (some ((14,x9)))) (.br (andI u8 op 7==5) (.Lf (some ((15,x9)))) (.br (andI u8 op 7==6) (.Lf (some ((3,2,x8)))) (.br (decide (i64.wrap (andI u8 (shrI u8 op 3) 7)<4)) (.Lf (some ((23,1,0,0,0,i64.wrap (andI u8 (shrI u8 op 3) 7),0,0)))) (.br (x4) (.Lf (some ((bif x5 then 19 else bif x6 then 20 else bif x7 then 21 else 22,1,0,0,0,0,0,0)))) (.Lf none)))))))) (.Lf none))
def ZMU (op:Int):QT5:=getO ZLo.Df (ZJQ op).val
def ZJR (op:Int):Bool:=okB (ZJQ op).val
abbrev ZH9:Rs:=Rs.one (Sh.agg (R.Pq (R.int i64) (R.Pq (R.int i64) (R.Pq (R.int i64) (R.Pq (R.int i64) (R.Pq (R.int i64) (R.Pq (R.int i64) (R.Pq (R.int i64) (R.int i64)))))))))
def ZE0 (op:Int):RT (Option TI):=
 let x1:QT23:=(0,0,0,0,i64.wrap (andI u8 (shrI u8 op 3) 7),0)
 let x2:QT16:=(1,0,0,i64.wrap (andI u8 (shrI u8 op 4) 3),0,0,0)
 let x3:=andI u8 op 7==2||(!andI u8 op 7==3||(!decide (i64.wrap (andI u8 (shrI u8 op 3) 7)<4)||decide (0<=i64.wrap (i64.wrap (andI u8 (shrI u8 op 3) 7)-2)/\i64.wrap (i64.wrap (andI u8 (shrI u8 op 3) 7)-2)<2)))
 let x4:QT16:=(3,x1)
 .br (andI u8 op 7==0) (.Lf (some ((26,1,x1)))) (.br (andI u8 op 7==1) (.br (!andI u8 op 8 !=0) (.Lf (some ((31,x2)))) (.br (i64.wrap (andI u8 (shrI u8 op 3) 7)==5) (.Lf (some ((28,1,0,0,0,0,0,0)))) (.Lf (some ((29,1,0,0,0,0,0,0)))))) (.br (!x3||(andI u8 op 7==2||(!andI u8 op 7==3||(decide (i64.wrap (andI u8 (shrI u8 op 3) 7)<4)||decide (0<=i64.wrap (i64.wrap (andI u8 (shrI u8 op 3) 7)-4)/\i64.wrap (i64.wrap (andI u8 (shrI u8 op 3) 7)-4)<4))))) (.br (x3) (.br (andI u8 op 7==2) (.Lf (some ((24,x4)))) (.br (andI u8 op 7==3) (.br (decide (i64.wrap (andI u8 (shrI u8 op 3) 7)<4)) (.Lf (some ((bif i64.wrap (i64.wrap (andI u8 (shrI u8 op 3) 7)-2)==0 then 34 else 33,2,0,0,0,0,0,0)))) (.Lf (some ((bif i64.wrap (i64.wrap (andI u8 (shrI u8 op 3) 7)-4)==0 then 32 else bif i64.wrap (i64.wrap (andI u8 (shrI u8 op 3) 7)-4)== ↑(0+1) then 11 else bif i64.wrap (i64.wrap (andI u8 (shrI u8 op 3) 7)-4)== ↑(0+1+1) then 36 else 35,1,0,0,0,0,0,0))))) (.br (andI u8 op 7==4) (.Lf (some ((25,x4)))) (.br (andI u8 op 7==5) (.Lf (some ((30,x2)))) (.br (andI u8 op 7==6) (.Lf (some ((13,2,0,0,0,i64.wrap (andI u8 (shrI u8 op 3) 7),0,0)))) (.Lf (some ((27,1,0,0,0,0,0,i64.wrap (andI u8 (shrI u8 op 3) 7)))))))))) (.Lf none)) (.Lf none)))
def ZJS (op:Int):QT5:=getO ZH9.Df (ZE0 op).val
def ZE1 (op:Int):Bool:=okB (ZE0 op).val
abbrev ZE3:Rs:=Rs.one (Sh.agg (R.Pq (R.int i64) (R.Pq (R.int i64) (R.Pq (R.int i64) (R.Pq (R.int i64) (R.Pq (R.int i64) (R.Pq (R.int i64) (R.Pq (R.int i64) (R.int i64)))))))))
def Zfv (chip:Int) (op:Int):RT (Option TI):=
 let x1:QT5:=(37,1,0,0,0,0,0,0)
 let x2:QT5:=(2,1,i64.wrap (andI u8 (shrI u8 op 3) 7),i64.wrap (andI u8 op 7),0,0,0,0)
 let x3:QT5:=(12,1,0,i64.wrap (andI u8 op 7),0,i64.wrap (andI u8 (shrI u8 op 3) 7),0,0)
 .br (chip==2) (.br (ZJT op).2 (.Lf (some (ZJT op).1)) (.br (Zi1 op).2 (.Lf (some (Zi1 op).1)) (.br (!shrI u8 op 6==0||ZJR op) (.br (shrI u8 op 6==0) (.Lf (some (ZMU op))) (.br (shrI u8 op 6==1) (.br (op==118) (.Lf (some (x1))) (.Lf (some (x2)))) (.br (shrI u8 op 6==2) (.Lf (some (x3))) (.br (ZE1 op) (.Lf (some (ZJS op))) (.Lf none))))) (.Lf none)))) (.br (Zi1 op).2 (.Lf (some (Zi1 op).1)) (.br (!shrI u8 op 6==0||ZJR op) (.br (shrI u8 op 6==0) (.Lf (some (ZMU op))) (.br (shrI u8 op 6==1) (.br (op==118) (.Lf (some (x1))) (.Lf (some (x2)))) (.br (shrI u8 op 6==2) (.Lf (some (x3))) (.br (ZE1 op) (.Lf (some (ZJS op))) (.Lf none))))) (.Lf none)))
def Zpy (chip:Int) (op:Int):QT5:=getO ZE3.Df (Zfv chip op).val
def Zpx (chip:Int) (op:Int):Bool:=okB (Zfv chip op).val
abbrev ZMv:List Sh:=[Sh.one (R.int i64)]
abbrev ZMw:Rs:=Rs.one (Sh.one R.bool)
def rOnT (chip:Int):RT (Bool):=
 .Lf (chip==2)
def rOn (chip:Int):Bool:=(rOnT chip).val
def rOnE:En:=Zi ZMv ZMw (λ_=>none) (λa=>rOn a)
theorem Zde:Zd prog 146 rOnE:=
 pureQ 7 [] [] ZMv ZMw trivial Tryz.func146 Tryz.call146 trivial (t:=λa=>rOnT a)
abbrev Zrq:List Sh:=[Sh.one (R.int u8)]
abbrev Zrr:Rs:=Rs.one (Sh.one R.bool)
def ZxW (b:Int):RT (Bool):=
 let x1:=i64.wrap (i64.wrap (i64.wrap (i64.wrap (0+1)+1)+1)+1)
 let x2:=i64.wrap (x1+1)
 let x3:=i64.wrap (x2+1)
 let x4:=bif andI u8 (shrI u8 b (i64.wrap (0+1))) 1==1 then !!andI u8 (shrI u8 b 0) 1==1 else !andI u8 (shrI u8 b 0) 1==1
 let x5:=bif andI u8 (shrI u8 b (i64.wrap (i64.wrap (0+1)+1))) 1==1 then !x4 else x4
 let x6:=bif andI u8 (shrI u8 b (i64.wrap (i64.wrap (i64.wrap (0+1)+1)+1))) 1==1 then !x5 else x5
 let x7:=bif andI u8 (shrI u8 b x1) 1==1 then !x6 else x6
 let x8:=bif andI u8 (shrI u8 b x2) 1==1 then !x7 else x7
 let x9:=bif andI u8 (shrI u8 b x3) 1==1 then !x8 else x8
 .Lf (bif andI u8 (shrI u8 b (i64.wrap (x3+1))) 1==1 then !x9 else x9)
def Zuz (b:Int):Bool:=(ZxW b).val
def Zog:En:=Zi Zrq Zrr (λ_=>none) (λa=>Zuz a)
theorem ZmL:Zd prog 266 Zog:=
 Zyw (P:=prog) (n:=31) (k:=10) (l:=[]) (ol:=[]) trivial Tryz.func266 rfl (by kernel_rfl) Tryz.call266 trivial (ts:=Zrq) (rs:=Zrr) (t:=λa=>ZxW a) (λa=>by kernel_rfl)
abbrev ZJs:List Sh:=[Sh.one R.bool,Sh.one R.bool,Sh.one R.bool]
abbrev ZJt:Rs:=Rs.one (Sh.one R.bool)
def ZMB (a:Bool) (b:Bool) (c:Bool):RT (Bool):=
 .Lf (bif a then b||bif a then c||b&&c else b&&c else bif a then c||b&&c else b&&c)
def rMaj (a:Bool) (b:Bool) (c:Bool):Bool:=(ZMB a b c).val
def ZAj:En:=Zi ZJs ZJt (λ_=>none) (λa=>rMaj a.1 a.2.1 a.2.2)
theorem ZkA:Zd prog 264 ZAj:=
 pureQ 127 [] [] ZJs ZJt trivial Tryz.func264 Tryz.call264 trivial (t:=λa=>ZMB a.1 a.2.1 a.2.2)
abbrev ZJm:List Sh:=[Sh.one R.bool]
abbrev ZJn:Rs:=Rs.one (Sh.one (R.int i64))
def ZMu (b:Bool):RT (Int):=
 .br (b) (.Lf (1)) (.Lf (0))
def rOne (b:Bool):Int:=(ZMu b).val
def ZHJ:En:=Zi ZJm ZJn (λ_=>none) (λa=>rOne a)
theorem ZuC:Zd prog 267 ZHJ:=
 pureQ 7 [] [] ZJm ZJn trivial Tryz.func267 Tryz.call267 trivial (t:=λa=>ZMu a)
abbrev Zrh:List Sh:=[Sh.one (R.int u8)]
abbrev Zri:Rs:=Rs.one (Sh.one (R.int i64))
def ZxA (n:Int):RT (Int):=
 .Lf (i64.wrap (IntKind.i8.wrap n))
def Zem (n:Int):Int:=(ZxA n).val
def Zn7:En:=Zi Zrh Zri (λ_=>none) (λa=>Zem a)
theorem ZmD:Zd prog 309 Zn7:=
 pureQ 7 [] [] Zrh Zri trivial Tryz.func309 Tryz.call309 trivial (t:=λa=>ZxA a)
abbrev ZJa:List Sh:=[Sh.one (R.int u8),Sh.one (R.int u8),Sh.one R.bool]
abbrev ZJb:Rs:=Rs.tup [Sh.one (R.int u8),Sh.one R.bool,Sh.one R.bool,Sh.one R.bool]
def ZMo (a:Int) (b:Int) (c:Bool):RT (QT25):=
 let x1:=decide (i64.wrap (i64.wrap (Zem a+Zem b)+rOne c)< -128)
 let x2:=i64.wrap (i64.wrap (i64.wrap a+i64.wrap b)+rOne c)
 let x3:=u8.wrap x2
 let x4:=decide (x2>255)
 let x5:=decide (i64.wrap (i64.wrap (i64.wrap (andI u8 a 15)+i64.wrap (andI u8 b 15))+rOne c)>15)
 .Lf ((bif x1 then x3 else x3,bif x1 then x4 else x4,bif x1 then x5 else x5,x1||decide (i64.wrap (i64.wrap (Zem a+Zem b)+rOne c)>127)))
def rSum (a:Int) (b:Int) (c:Bool):QT25:=(ZMo a b c).val
def ZHs:En:=Zi ZJa ZJb (λ_=>none) (λa=>rSum a.1 a.2.1 a.2.2)
theorem Zum:Zd prog 260 ZHs:=
 pureQ 8191 [(267,ZHJ),(309,Zn7)] [] ZJa ZJb ⟨ZuC,ZmD,Tv⟩ Tryz.func260 Tryz.call260 trivial (t:=λa=>ZMo a.1 a.2.1 a.2.2)
abbrev ZEy:List Sh:=[Sh.one (R.int u8),Sh.one (R.int u8),Sh.one R.bool]
abbrev ZEz:Rs:=Rs.tup [Sh.one (R.int u8),Sh.one R.bool,Sh.one R.bool,Sh.one R.bool]
def ZJD (a:Int) (b:Int) (c:Bool):RT (QT25):=
 let x1:=decide (i64.wrap (i64.wrap (Zem a-Zem b)-rOne c)< -128)
 let x2:=i64.wrap (i64.wrap (i64.wrap a-i64.wrap b)-rOne c)
 let x3:=u8.wrap x2
 let x4:=decide (x2<0)
 let x5:=decide (i64.wrap (i64.wrap (i64.wrap (i64.wrap (andI u8 a 15)+i64.wrap (u8.wrap (15-andI u8 b 15)))+1)-rOne c)>15)
 .Lf ((bif x1 then x3 else x3,bif x1 then x4 else x4,bif x1 then x5 else x5,x1||decide (i64.wrap (i64.wrap (Zem a-Zem b)-rOne c)>127)))
def Zdt (a:Int) (b:Int) (c:Bool):QT25:=(ZJD a b c).val
def Zyj:En:=Zi ZEy ZEz (λ_=>none) (λa=>Zdt a.1 a.2.1 a.2.2)
theorem Zpe:Zd prog 261 Zyj:=
 pureQ 8191 [(267,ZHJ),(309,Zn7)] [] ZEy ZEz ⟨ZuC,ZmD,Tv⟩ Tryz.func261 Tryz.call261 trivial (t:=λa=>ZJD a.1 a.2.1 a.2.2)
abbrev ZD8:List Sh:=[Sh.one (R.int u8),Sh.one (R.int u8)]
abbrev ZD9:Rs:=Rs.one (Sh.one (R.int u16))
def ZJu (h:Int) (l:Int):RT (Int):=
 .Lf (orI u16 (shlI u16 (u16.wrap h) 8) (u16.wrap l))
def Zcv (h:Int) (l:Int):Int:=(ZJu h l).val
def ZkE:En:=Zi ZD8 ZD9 (λ_=>none) (λa=>Zcv a.1 a.2)
theorem ZgQ:Zd prog 172 ZkE:=
 pureQ 31 [] [] ZD8 ZD9 trivial Tryz.func172 Tryz.call172 trivial (t:=λa=>ZJu a.1 a.2)
abbrev ZJN:List Sh:=[Sh.one R.bool,Sh.one (R.int i64)]
abbrev ZEG:Rs:=Rs.one (Sh.one (R.int u8))
def ZHW (b:Bool) (n:Int):RT (Option (Int)):=
 .br (!b||decide (0<=n)) (.br (b) (.Lf (some (shlI u8 1 n))) (.Lf (some (0)))) (.Lf none)
def rBit (b:Bool) (n:Int):Int:=getO ZEG.Df (ZHW b n).val
def ZcU (b:Bool) (n:Int):Bool:=okB (ZHW b n).val
def ZHX:En:=Zi ZJN ZEG (λa=>some (ZcU a.1 a.2)) (λa=>rBit a.1 a.2)
theorem ZvD:Zd prog 265 ZHX:=
 pureP 31 [] [] ZJN ZEG trivial Tryz.func265 Tryz.call265 trivial (t:=λa=>ZHW a.1 a.2)
abbrev ZDM:List Sh:=[Sh.one (R.int i64),Sh.agg rcF7]
abbrev ZuB:Rs:=Rs.one (Sh.one (R.int u8))
def ZxX (chip:Int) (f:TF):RT (Option (Int)):=
 let x1:=orI u8 (orI u8 (orI u8 (orI u8 (rBit f.1 7) (rBit f.2.1 6)) (rBit f.2.2.2.1 4)) (rBit f.2.2.2.2.1 2)) (rBit f.2.2.2.2.2.2 0)
 .br (!ZcU f.1 7||(!ZcU f.2.1 6||(!ZcU f.2.2.2.1 4||(!ZcU f.2.2.2.2.1 2||ZcU f.2.2.2.2.2.2 0)))) (.br (!ZcU f.1 7||(!ZcU f.2.1 6||(!ZcU f.2.2.2.1 4||ZcU f.2.2.2.2.1 2))) (.br (!ZcU f.1 7||(!ZcU f.2.1 6||ZcU f.2.2.2.1 4)) (.br (!ZcU f.1 7||ZcU f.2.1 6) (.br (ZcU f.1 7) (.br (!rOn chip||(!ZcU f.2.2.1 5||ZcU f.2.2.2.2.2.1 1)) (.br (!rOn chip||ZcU f.2.2.1 5) (.br (rOn chip) (.Lf (some (orI u8 (orI u8 x1 (rBit f.2.2.1 5)) (rBit f.2.2.2.2.2.1 1)))) (.Lf (some (orI u8 x1 2)))) (.Lf none)) (.Lf none)) (.Lf none)) (.Lf none)) (.Lf none)) (.Lf none)) (.Lf none)
def ZMt (chip:Int) (f:TF):Int:=getO ZuB.Df (ZxX chip f).val
def ZxY (chip:Int) (f:TF):Bool:=okB (ZxX chip f).val
def ZJk:En:=Zi ZDM ZuB (λa=>some (ZxY a.1 a.2)) (λa=>ZMt a.1 a.2)
theorem ZHG:Zd prog 221 ZJk:=
 pureP 63 [(146,rOnE),(265,ZHX)] [] ZDM ZuB ⟨Zde,ZvD,Tv⟩ Tryz.func221 Tryz.call221 trivial (t:=λa=>ZxX a.1 a.2)
abbrev Zra:List Sh:=[Sh.one (R.int i64),Sh.one (R.int u8)]
abbrev Zrb:Rs:=Rs.one (Sh.agg rcF7)
def Zxv (chip:Int) (b:Int):RT TF:=
 .Lf ((andI u8 b 128 !=0,andI u8 b 64 !=0,rOn chip&&andI u8 b 32 !=0,andI u8 b 16 !=0,andI u8 b 4 !=0,rOn chip&&andI u8 b 2 !=0,andI u8 b 1 !=0))
def ZDq (chip:Int) (b:Int):TF:=(Zxv chip b).val
def Zxw:En:=Zi Zra Zrb (λ_=>none) (λa=>ZDq a.1 a.2)
theorem ZzZ:Zd prog 259 Zxw:=
 pureQ 63 [(146,rOnE)] [] Zra Zrb ⟨Zde,Tv⟩ Tryz.func259 Tryz.call259 trivial (t:=λa=>Zxv a.1 a.2)
abbrev ZMy:List Sh:=[Sh.one (R.int u8)]
abbrev ZMz:Rs:=Rs.one (Sh.agg rcF7)
def rOfT (r:Int):RT TF:=
 .Lf ((decide (r>=128),r==0,false,false,Zuz r,false,false))
def rOf (r:Int):TF:=(rOfT r).val
def rOfE:En:=Zi ZMy ZMz (λ_=>none) (λa=>rOf a)
theorem Zx1:Zd prog 262 rOfE:=
 pureQ 7 [(266,Zog)] [] ZMy ZMz ⟨ZmL,Tv⟩ Tryz.func262 Tryz.call262 trivial (t:=λa=>rOfT a)
abbrev ZDP:List Sh:=[Sh.one (R.int i64),Sh.agg rcF7,Sh.one R.bool,Sh.one R.bool]
abbrev ZDQ:Rs:=Rs.one (Sh.agg rcF7)
def ZJl (chip:Int) (f:TF) (k:Bool) (v:Bool):RT TF:=
 .Lf ((f.1,f.2.1,rOn chip&&bif rOn chip then k else k,f.2.2.2.1,f.2.2.2.2.1,bif rOn chip then rOn chip&&v else rOn chip&&v,f.2.2.2.2.2.2))
def ZDR (chip:Int) (f:TF) (k:Bool) (v:Bool):TF:=(ZJl chip f k v).val
def Zrt:En:=Zi ZDP ZDQ (λ_=>none) (λa=>ZDR a.1 a.2.1 a.2.2.1 a.2.2.2)
theorem ZiU:Zd prog 263 Zrt:=
 pureQ 511 [(146,rOnE)] [] ZDP ZDQ ⟨Zde,Tv⟩ Tryz.func263 Tryz.call263 trivial (t:=λa=>ZJl a.1 a.2.1 a.2.2.1 a.2.2.2)
abbrev ZEe:List Sh:=[Sh.agg ZjG,Sh.one (R.int i64)]
abbrev Zyb:Rs:=Rs.one (Sh.one (R.int u8))
def ZAm (r:TR) (n:Int):RT (Option (Int)):=
 .br (decide (0<=andI i64 n 7/\andI i64 n 7<8)) (.Lf (some (bif andI i64 n 7==0 then r.2.1 else bif andI i64 n 7== ↑(0+1) then r.2.2.1 else bif andI i64 n 7== ↑(0+1+1) then r.2.2.2.1 else bif andI i64 n 7== ↑(0+1+1+1) then r.2.2.2.2.1 else bif andI i64 n 7== ↑(0+1+1+1+1) then r.2.2.2.2.2.1 else bif andI i64 n 7== ↑(0+1+1+1+1+1) then r.2.2.2.2.2.2.1 else bif andI i64 n 7== ↑(0+1+1+1+1+1+1) then 0 else r.1))) (.Lf none)
def rGet (r:TR) (n:Int):Int:=getO Zyb.Df (ZAm r n).val
def Zvq (r:TR) (n:Int):Bool:=okB (ZAm r n).val
def ZMF:En:=Zi ZEe Zyb (λa=>some (Zvq a.1 a.2)) (λa=>rGet a.1 a.2)
theorem ZEd:Zd prog 163 ZMF:=
 pureP 31 [] [] ZEe Zyb trivial Tryz.func163 Tryz.call163 trivial (t:=λa=>ZAm a.1 a.2)
abbrev ZJe:List Sh:=[Sh.agg ZjG,Sh.one (R.int i64),Sh.one (R.int u8)]
abbrev ZJf:Rs:=Rs.one (Sh.agg ZjG)
def ZMq (r:TR) (n:Int) (v:Int):RT TR:=
 .Lf ((bif andI i64 n 7==0 then r.1 else bif andI i64 n 7==1 then r.1 else bif andI i64 n 7==2 then r.1 else bif andI i64 n 7==3 then r.1 else bif andI i64 n 7==4 then r.1 else bif andI i64 n 7==5 then r.1 else bif andI i64 n 7==7 then v else r.1,bif andI i64 n 7==0 then v else r.2.1,bif andI i64 n 7==0 then r.2.2.1 else bif andI i64 n 7==1 then v else r.2.2.1,bif andI i64 n 7==0 then r.2.2.2.1 else bif andI i64 n 7==1 then r.2.2.2.1 else bif andI i64 n 7==2 then v else r.2.2.2.1,bif andI i64 n 7==0 then r.2.2.2.2.1 else bif andI i64 n 7==1 then r.2.2.2.2.1 else bif andI i64 n 7==2 then r.2.2.2.2.1 else bif andI i64 n 7==3 then v else r.2.2.2.2.1,bif andI i64 n 7==0 then r.2.2.2.2.2.1 else bif andI i64 n 7==1 then r.2.2.2.2.2.1 else bif andI i64 n 7==2 then r.2.2.2.2.2.1 else bif andI i64 n 7==3 then r.2.2.2.2.2.1 else bif andI i64 n 7==4 then v else r.2.2.2.2.2.1,bif andI i64 n 7==0 then r.2.2.2.2.2.2.1 else bif andI i64 n 7==1 then r.2.2.2.2.2.2.1 else bif andI i64 n 7==2 then r.2.2.2.2.2.2.1 else bif andI i64 n 7==3 then r.2.2.2.2.2.2.1 else bif andI i64 n 7==4 then r.2.2.2.2.2.2.1 else bif andI i64 n 7==5 then v else r.2.2.2.2.2.2.1,r.2.2.2.2.2.2.2))
def rSet (r:TR) (n:Int) (v:Int):TR:=(ZMq r n v).val
def Zz2:En:=Zi ZJe ZJf (λ_=>none) (λa=>rSet a.1 a.2.1 a.2.2)
theorem Zuo:Zd prog 205 Zz2:=
 pureQ 9162596991 [] [] ZJe ZJf trivial Tryz.func205 Tryz.call205 trivial (t:=λa=>ZMq a.1 a.2.1 a.2.2)
abbrev ZuA:List Sh:=[Sh.agg ZjG,Sh.one (R.int i64)]
abbrev Zoh:Rs:=Rs.one (Sh.one (R.int u16))
def Zrs (r:TR) (n:Int):RT (Option (Int)):=
 .br (andI i64 n 3==3) (.Lf (some r.2.2.2.2.2.2.2.2.1)) (.br (!Zvq r (i64.wrap (2*andI i64 n 3))||Zvq r (i64.wrap (i64.wrap (2*andI i64 n 3)+1))) (.br (Zvq r (i64.wrap (2*andI i64 n 3))) (.Lf (some (Zcv (rGet r (i64.wrap (2*andI i64 n 3))) (rGet r (i64.wrap (i64.wrap (2*andI i64 n 3)+1)))))) (.Lf none)) (.Lf none))
def Zab (r:TR) (n:Int):Int:=getO Zoh.Df (Zrs r n).val
def ZDL (r:TR) (n:Int):Bool:=okB (Zrs r n).val
def ZMs:En:=Zi ZuA Zoh (λa=>some (ZDL a.1 a.2)) (λa=>Zab a.1 a.2)
theorem ZHF:Zd prog 158 ZMs:=
 pureP 31 [(163,ZMF),(172,ZkE)] [] ZuA Zoh ⟨ZEd,ZgQ,Tv⟩ Tryz.func158 Tryz.call158 trivial (t:=λa=>Zrs a.1 a.2)
abbrev ZmE:List Sh:=[Sh.agg ZjG,Sh.one (R.int i64),Sh.one (R.int u16)]
abbrev ZmF:Rs:=Rs.one (Sh.agg ZjG)
def ZgG (r:TR) (n:Int) (v:Int):RT TR:=
 .br (andI i64 n 3==3) (.Lf ((r.1,r.2.1,r.2.2.1,r.2.2.2.1,r.2.2.2.2.1,r.2.2.2.2.2.1,r.2.2.2.2.2.2.1,r.2.2.2.2.2.2.2.1,v,r.2.2.2.2.2.2.2.2.2))) (.Lf (rSet (rSet r (i64.wrap (2*andI i64 n 3)) (u8.wrap (shrI u16 v 8))) (i64.wrap (i64.wrap (2*andI i64 n 3)+1)) (u8.wrap v)))
def Zt (r:TR) (n:Int) (v:Int):TR:=(ZgG r n v).val
def ZeP:En:=Zi ZmE ZmF (λ_=>none) (λa=>Zt a.1 a.2.1 a.2.2)
theorem ZjP:Zd prog 206 ZeP:=
 pureQ 127 [(205,Zz2)] [] ZmE ZmF ⟨Zuo,Tv⟩ Tryz.func206 Tryz.call206 trivial (t:=λa=>ZgG a.1 a.2.1 a.2.2)
abbrev ZDN:List Sh:=[Sh.one (R.int i64),Sh.agg ZjG]
abbrev ZxZ:Rs:=Rs.one (Sh.one (R.int u16))
def ZHH (chip:Int) (r:TR):RT (Option (Int)):=
 .br (ZxY chip r.2.2.2.2.2.2.2.1) (.Lf (some (Zcv r.1 (ZMt chip r.2.2.2.2.2.2.2.1)))) (.Lf none)
def rPSW (chip:Int) (r:TR):Int:=getO ZxZ.Df (ZHH chip r).val
def ZKW (chip:Int) (r:TR):Bool:=okB (ZHH chip r).val
def rPSWE:En:=Zi ZDN ZxZ (λa=>some (ZKW a.1 a.2)) (λa=>rPSW a.1 a.2)
theorem ZKV:Zd prog 171 rPSWE:=
 pureP 31 [(172,ZkE),(221,ZJk)] [] ZDN ZxZ ⟨ZgQ,ZHG,Tv⟩ Tryz.func171 Tryz.call171 trivial (t:=λa=>ZHH a.1 a.2)
abbrev Zrj:List Sh:=[Sh.one (R.int i64),Sh.agg ZjG,Sh.one (R.int u16)]
abbrev Zrk:Rs:=Rs.one (Sh.agg ZjG)
def Zn8 (chip:Int) (r:TR) (v:Int):RT TR:=
 .Lf ((u8.wrap (shrI u16 v 8),r.2.1,r.2.2.1,r.2.2.2.1,r.2.2.2.2.1,r.2.2.2.2.2.1,r.2.2.2.2.2.2.1,ZDq chip (u8.wrap v),r.2.2.2.2.2.2.2.2))
def Zoa (chip:Int) (r:TR) (v:Int):TR:=(Zn8 chip r v).val
def Zn9:En:=Zi Zrj Zrk (λ_=>none) (λa=>Zoa a.1 a.2.1 a.2.2)
theorem Zz1:Zd prog 207 Zn9:=
 pureQ 127 [(259,Zxw)] [] Zrj Zrk ⟨ZzZ,Tv⟩ Tryz.func207 Tryz.call207 trivial (t:=λa=>Zn8 a.1 a.2.1 a.2.2)
abbrev ZMI:List Sh:=[Sh.one (R.int i64),Sh.one (R.int i64),Sh.one (R.int u8),Sh.one (R.int u8),Sh.agg rcF7]
abbrev ZMJ:Rs:=Rs.tup [Sh.one (R.int u8),Sh.agg rcF7]
def rDoT (chip:Int) (op:Int) (a:Int) (b:Int) (f:TF):RT (QT3):=
 let x1:=bif andI i64 op 7==0 then andI i64 op 7==0 else andI i64 op 7==1
 let x2:=bif andI i64 op 7==2 then andI i64 op 7==2 else bif andI i64 op 7==3 then andI i64 op 7==3 else andI i64 op 7==7
 let x3:Int:=bif x1 then bif andI i64 op 7==1 then (rSum a b f.2.2.2.2.2.2).1 else (rSum a b false).1 else bif x2 then bif andI i64 op 7==3 then (Zdt a b f.2.2.2.2.2.2).1 else (Zdt a b false).1 else bif andI i64 op 7==4 then bif rOn chip then andI u8 a b else andI u8 a b else bif andI i64 op 7==5 then xorI u8 a b else bif andI i64 op 7==6 then orI u8 a b else 0
 let x4:=rOf x3
 let x5:=x4.2
 let x6:=x5.2
 let x7:=x6.2.2
 let x8:=ZDR chip (x4.1,x5.1,x6.1,bif x1 then bif andI i64 op 7==1 then (rSum a b f.2.2.2.2.2.2).2.2.1 else (rSum a b false).2.2.1 else bif x2 then bif andI i64 op 7==3 then (Zdt a b f.2.2.2.2.2.2).2.2.1 else (Zdt a b false).2.2.1 else andI i64 op 7==4&&(rOn chip||andI u8 (orI u8 a b) 8 !=0),x7.1,x7.2.1,bif x1 then bif andI i64 op 7==1 then (rSum a b f.2.2.2.2.2.2).2.1 else (rSum a b false).2.1 else x2&&bif andI i64 op 7==3 then (Zdt a b f.2.2.2.2.2.2).2.1 else (Zdt a b false).2.1) (rMaj (decide (a>=128)) (bif x1 then decide (b>=128) else bif x2 then !decide (b>=128) else decide (b>=128)) (decide (x3>=128))) (bif x1 then bif andI i64 op 7==1 then (rSum a b f.2.2.2.2.2.2).2.2.2 else (rSum a b false).2.2.2 else x2&&bif andI i64 op 7==3 then (Zdt a b f.2.2.2.2.2.2).2.2.2 else (Zdt a b false).2.2.2)
 .br (andI i64 op 7==7) (.Lf ((a,x8))) (.Lf ((x3,x8)))
def rDo (chip:Int) (op:Int) (a:Int) (b:Int) (f:TF):QT3:=(rDoT chip op a b f).val
def rDoE:En:=Zi ZMI ZMJ (λ_=>none) (λa=>rDo a.1 a.2.1 a.2.2.1 a.2.2.2.1 a.2.2.2.2)
theorem ZMH:Zd prog 208 rDoE:=
 pureQ 1246707057321695066193919 [(146,rOnE),(260,ZHs),(261,Zyj),(262,rOfE),(263,Zrt),(264,ZAj)] [] ZMI ZMJ ⟨Zde,Zum,Zpe,Zx1,ZiU,ZkA,Tv⟩ Tryz.func208 Tryz.call208 trivial (t:=λa=>rDoT a.1 a.2.1 a.2.2.1 a.2.2.2.1 a.2.2.2.2)
abbrev ZJx:List Sh:=[Sh.one (R.int i64),Sh.one (R.int u8),Sh.agg rcF7]
abbrev ZJy:Rs:=Rs.tup [Sh.one (R.int u8),Sh.agg rcF7]
def ZMD (chip:Int) (v:Int) (f:TF):RT (QT3):=
 .Lf (((rSum v 1 false).1,ZDR chip ((rOf (rSum v 1 false).1).1,(rOf (rSum v 1 false).1).2.1,(rOf (rSum v 1 false).1).2.2.1,(rSum v 1 false).2.2.1,(rOf (rSum v 1 false).1).2.2.2.2.1,(rOf (rSum v 1 false).1).2.2.2.2.2.1,f.2.2.2.2.2.2) (rMaj (decide (v>=128)) false (decide ((rSum v 1 false).1>=128))) (rSum v 1 false).2.2.2))
def rInr (chip:Int) (v:Int) (f:TF):QT3:=(ZMD chip v f).val
def ZME:En:=Zi ZJx ZJy (λ_=>none) (λa=>rInr a.1 a.2.1 a.2.2)
theorem ZK0:Zd prog 218 ZME:=
 pureQ 8191 [(260,ZHs),(262,rOfE),(263,Zrt),(264,ZAj)] [] ZJx ZJy ⟨Zum,Zx1,ZiU,ZkA,Tv⟩ Tryz.func218 Tryz.call218 trivial (t:=λa=>ZMD a.1 a.2.1 a.2.2)
abbrev ZJG:List Sh:=[Sh.one (R.int i64),Sh.one (R.int u8),Sh.agg rcF7]
abbrev ZJH:Rs:=Rs.tup [Sh.one (R.int u8),Sh.agg rcF7]
def ZML (chip:Int) (v:Int) (f:TF):RT (QT3):=
 .Lf (((Zdt v 1 false).1,ZDR chip ((rOf (Zdt v 1 false).1).1,(rOf (Zdt v 1 false).1).2.1,(rOf (Zdt v 1 false).1).2.2.1,(Zdt v 1 false).2.2.1,(rOf (Zdt v 1 false).1).2.2.2.2.1,(rOf (Zdt v 1 false).1).2.2.2.2.2.1,f.2.2.2.2.2.2) (rMaj (decide (v>=128)) true (decide ((Zdt v 1 false).1>=128))) (Zdt v 1 false).2.2.2))
def rDcr (chip:Int) (v:Int) (f:TF):QT3:=(ZML chip v f).val
def ZMM:En:=Zi ZJG ZJH (λ_=>none) (λa=>rDcr a.1 a.2.1 a.2.2)
theorem ZK8:Zd prog 219 ZMM:=
 pureQ 8191 [(261,Zyj),(262,rOfE),(263,Zrt),(264,ZAj)] [] ZJG ZJH ⟨Zpe,Zx1,ZiU,ZkA,Tv⟩ Tryz.func219 Tryz.call219 trivial (t:=λa=>ZML a.1 a.2.1 a.2.2)
abbrev ZJv:List Sh:=[Sh.one (R.int i64),Sh.one (R.int u16),Sh.agg rcF7]
abbrev ZJw:Rs:=Rs.tup [Sh.one (R.int u16),Sh.agg rcF7]
def ZMC (chip:Int) (v:Int) (f:TF):RT (QT3):=
 .Lf ((u16.wrap (v+1),f.1,f.2.1,bif rOn chip then v==65535 else f.2.2.1,f.2.2.2))
def rInx (chip:Int) (v:Int) (f:TF):QT3:=(ZMC chip v f).val
def ZKZ:En:=Zi ZJv ZJw (λ_=>none) (λa=>rInx a.1 a.2.1 a.2.2)
theorem ZKY:Zd prog 209 ZKZ:=
 pureQ 255 [(146,rOnE)] [] ZJv ZJw ⟨Zde,Tv⟩ Tryz.func209 Tryz.call209 trivial (t:=λa=>ZMC a.1 a.2.1 a.2.2)
abbrev ZJE:List Sh:=[Sh.one (R.int i64),Sh.one (R.int u16),Sh.agg rcF7]
abbrev ZJF:Rs:=Rs.tup [Sh.one (R.int u16),Sh.agg rcF7]
def ZMK (chip:Int) (v:Int) (f:TF):RT (QT3):=
 .Lf ((u16.wrap (v-1),f.1,f.2.1,bif rOn chip then v==0 else f.2.2.1,f.2.2.2))
def rDcx (chip:Int) (v:Int) (f:TF):QT3:=(ZMK chip v f).val
def ZK7:En:=Zi ZJE ZJF (λ_=>none) (λa=>rDcx a.1 a.2.1 a.2.2)
theorem ZK6:Zd prog 210 ZK7:=
 pureQ 255 [(146,rOnE)] [] ZJE ZJF ⟨Zde,Tv⟩ Tryz.func210 Tryz.call210 trivial (t:=λa=>ZMK a.1 a.2.1 a.2.2)
abbrev ZJI:List Sh:=[Sh.one (R.int i64),Sh.one (R.int u16),Sh.one (R.int u16),Sh.agg rcF7]
abbrev ZJJ:Rs:=Rs.tup [Sh.one (R.int u16),Sh.agg rcF7]
def ZMN (chip:Int) (a:Int) (b:Int) (f:TF):RT (QT3):=
 .Lf ((u16.wrap (a+b),f.1,f.2.1,f.2.2.1,f.2.2.2.1,f.2.2.2.2.1,bif rOn chip then decide (i64.wrap (i64.wrap (IntKind.i16.wrap a)+i64.wrap (IntKind.i16.wrap b))< -32768)||decide (i64.wrap (i64.wrap (IntKind.i16.wrap a)+i64.wrap (IntKind.i16.wrap b))>32767) else f.2.2.2.2.2.1,decide (i64.wrap (i64.wrap a+i64.wrap b)>65535)))
def rDad (chip:Int) (a:Int) (b:Int) (f:TF):QT3:=(ZMN chip a b f).val
def ZLa:En:=Zi ZJI ZJJ (λ_=>none) (λa=>rDad a.1 a.2.1 a.2.2.1 a.2.2.2)
theorem ZK9:Zd prog 211 ZLa:=
 pureQ 2047 [(146,rOnE)] [] ZJI ZJJ ⟨Zde,Tv⟩ Tryz.func211 Tryz.call211 trivial (t:=λa=>ZMN a.1 a.2.1 a.2.2.1 a.2.2.2)
abbrev ZEv:List Sh:=[Sh.one (R.int u16),Sh.one (R.int u16)]
abbrev ZEw:Rs:=Rs.tup [Sh.one (R.int u16),Sh.agg rcF7]
def ZJC (a:Int) (b:Int):RT (QT3):=
 let x1:=Zdt (u8.wrap (shrI u16 a 8)) (u8.wrap (shrI u16 b 8)) (Zdt (u8.wrap a) (u8.wrap b) false).2.1
 let x2:=x1.1
 let x3:=x2==0
 let x4:=Zcv x2 (Zdt (u8.wrap a) (u8.wrap b) false).1
 let x5:=decide (x2>=128)
 let x6:=rMaj (decide (a>=32768)) (decide (b<32768)) x5
 let x7:=x1.2
 let x8:=x7.2
 let x9:=x8.1
 let x10:=Zuz x2
 let x11:=x8.2
 let x12:=x7.1
 .Lf ((bif x3 then x4 else x4,bif x3 then x5 else x5,x3&&(Zdt (u8.wrap a) (u8.wrap b) false).1==0,bif x3 then x6 else x6,bif x3 then x9 else x9,bif x3 then x10 else x10,bif x3 then x11 else x11,bif x3 then x12 else x12))
def ZHU (a:Int) (b:Int):QT3:=(ZJC a b).val
def ZEx:En:=Zi ZEv ZEw (λ_=>none) (λa=>ZHU a.1 a.2)
theorem ZHT:Zd prog 214 ZEx:=
 pureQ 16383 [(172,ZkE),(261,Zyj),(264,ZAj),(266,Zog)] [] ZEv ZEw ⟨ZgQ,Zpe,ZkA,ZmL,Tv⟩ Tryz.func214 Tryz.call214 trivial (t:=λa=>ZJC a.1 a.2)
abbrev ZJK:List Sh:=[Sh.one (R.int i64),Sh.one (R.int u8),Sh.agg rcF7]
abbrev ZJL:Rs:=Rs.tup [Sh.one (R.int u8),Sh.agg rcF7]
def ZMO (chip:Int) (a:Int) (f:TF):RT (QT3):=
 let x1:Int:=bif f.2.2.2.1||decide (andI u8 a 15>9) then 6 else 0
 let x2:=rSum a (bif f.2.2.2.2.2.2||decide (a>153) then u8.wrap (x1+96) else x1) false
 let x3:=x2.1
 let x4:=rOf x3
 let x5:=x4.2
 let x6:=x5.2
 let x7:=x2.2.2
 let x8:=x6.2.2
 .Lf ((x3,ZDR chip (x4.1,x5.1,x6.1,x7.1,x8.1,x8.2.1,f.2.2.2.2.2.2||decide (a>153)) (rMaj (decide (a>=128)) false (decide (x3>=128))) x7.2))
def rDaa (chip:Int) (a:Int) (f:TF):QT3:=(ZMO chip a f).val
def ZLc:En:=Zi ZJK ZJL (λ_=>none) (λa=>rDaa a.1 a.2.1 a.2.2)
theorem ZLb:Zd prog 212 ZLc:=
 pureQ 32767 [(260,ZHs),(262,rOfE),(263,Zrt),(264,ZAj)] [] ZJK ZJL ⟨Zum,Zx1,ZiU,ZkA,Tv⟩ Tryz.func212 Tryz.call212 trivial (t:=λa=>ZMO a.1 a.2.1 a.2.2)
abbrev ZDs:List Sh:=[Sh.one (R.int i64),Sh.one (R.int u8),Sh.one R.bool]
abbrev ZxE:Rs:=Rs.tup [Sh.one (R.int u8),Sh.one R.bool]
def ZHt (op:Int) (a:Int) (c:Bool):RT (Option (Int×Bool)):=
 .br (andI i64 op 3==0||(andI i64 op 3==1||(!andI i64 op 3==2||ZcU c 0))) (.br (andI i64 op 3==0) (.Lf (some ((orI u8 (shlI u8 a 1) (shrI u8 a 7),decide (a>=128))))) (.br (andI i64 op 3==1) (.Lf (some ((orI u8 (shrI u8 a 1) (shlI u8 a 7),andI u8 a 1==1)))) (.br (andI i64 op 3==2) (.Lf (some ((orI u8 (shlI u8 a 1) (rBit c 0),decide (a>=128))))) (.br (ZcU c 7) (.Lf (some ((orI u8 (shrI u8 a 1) (rBit c 7),andI u8 a 1==1)))) (.Lf none))))) (.Lf none)
def rRot (op:Int) (a:Int) (c:Bool):Int×Bool:=getO ZxE.Df (ZHt op a c).val
def ZKR (op:Int) (a:Int) (c:Bool):Bool:=okB (ZHt op a c).val
def rRotE:En:=Zi ZDs ZxE (λa=>some (ZKR a.1 a.2.1 a.2.2)) (λa=>rRot a.1 a.2.1 a.2.2)
theorem ZKQ:Zd prog 213 rRotE:=
 pureP 537396479 [(265,ZHX)] [] ZDs ZxE ⟨ZvD,Tv⟩ Tryz.func213 Tryz.call213 trivial (t:=λa=>ZHt a.1 a.2.1 a.2.2)
abbrev ZEK:List Sh:=[Sh.one (R.int u16)]
abbrev ZEL:Rs:=Rs.tup [Sh.one (R.int u16),Sh.one R.bool]
def ZJP (v:Int):RT (Int×Bool):=
 .Lf ((orI u16 (shrI u16 v 1) (andI u16 v 32768),andI u16 v 1==1))
def ZA3 (v:Int):Int×Bool:=(ZJP v).val
def ZEM:En:=Zi ZEK ZEL (λ_=>none) (λa=>ZA3 a)
theorem ZHY:Zd prog 215 ZEM:=
 pureQ 15 [] [] ZEK ZEL trivial Tryz.func215 Tryz.call215 trivial (t:=λa=>ZJP a)
abbrev Zuu:List Sh:=[Sh.one (R.int u16),Sh.one R.bool]
abbrev Zoc:Rs:=Rs.tup [Sh.one (R.int u16),Sh.one R.bool,Sh.one R.bool]
def ZxM (v:Int) (c:Bool):RT (Option (Int×Bool×Bool)):=
 .br (ZcU c 0) (.Lf (some ((orI u16 (shlI u16 v 1) (u16.wrap (rBit c 0)),decide (v>=32768),andI u16 (orI u16 (shlI u16 v 1) (u16.wrap (rBit c 0))) 32768 !=andI u16 v 32768)))) (.Lf none)
def ZHy (v:Int) (c:Bool):Int×Bool×Bool:=getO Zoc.Df (ZxM v c).val
def ZDA (v:Int) (c:Bool):Bool:=okB (ZxM v c).val
def ZMr:En:=Zi Zuu Zoc (λa=>some (ZDA a.1 a.2)) (λa=>ZHy a.1 a.2)
theorem ZHx:Zd prog 216 ZMr:=
 pureP 255 [(265,ZHX)] [] Zuu Zoc ⟨ZvD,Tv⟩ Tryz.func216 Tryz.call216 trivial (t:=λa=>ZxM a.1 a.2)
abbrev Zym:List Sh:=[Sh.one R.bool,Sh.one (R.int i64)]
abbrev Zph:Rs:=Rs.one (Sh.one (R.int u8))
def ZvE (b:Bool) (n:Int):RT (Option (Int)):=
 .br (decide (0<=n)) (.Lf (some (u8.wrap (shlI i64 (rOne b) n)))) (.Lf none)
def ZeU (b:Bool) (n:Int):Int:=getO Zph.Df (ZvE b n).val
def Zag (b:Bool) (n:Int):Bool:=okB (ZvE b n).val
def ZEI:En:=Zi Zym Zph (λa=>some (Zag a.1 a.2)) (λa=>ZeU a.1 a.2)
theorem ZEH:Zd prog 217 ZEI:=
 pureP 31 [(267,ZHJ)] [] Zym Zph ⟨ZuC,Tv⟩ Tryz.func217 Tryz.call217 trivial (t:=λa=>ZvE a.1 a.2)
abbrev ZDu:List Sh:=[Sh.agg ZW,Sh.agg (R.Pq R.bool (R.Pq R.bool rcF7))]
abbrev ZxF:Rs:=Rs.tup [Sh.one (R.int u8),Sh.agg ZW]
def ZDv (c:TC) (l:QT0):RT (Option (Int×TC)):=
 let x1:=bif c.2.2.2.2.2.2.2.2.2.2.1 then c.2.2.2.2.2.2.2.2.2.2.2.1 else c.2.2.1
 .br (!Zag l.2.2.2.1 7||(!Zag c.2.2.2.2.2.2.2.1 6||(!Zag l.2.2.2.2.2.2.1 5||(!Zag l.2.2.2.2.2.2.2.1 4||Zag x1 3)))) (.br (!Zag l.2.2.2.1 7||(!Zag c.2.2.2.2.2.2.2.1 6||(!Zag l.2.2.2.2.2.2.1 5||Zag l.2.2.2.2.2.2.2.1 4))) (.br (!Zag l.2.2.2.1 7||(!Zag c.2.2.2.2.2.2.2.1 6||Zag l.2.2.2.2.2.2.1 5)) (.br (!Zag l.2.2.2.1 7||Zag c.2.2.2.2.2.2.2.1 6) (.br (Zag l.2.2.2.1 7) (.Lf (some ((orI u8 (orI u8 (orI u8 (orI u8 (orI u8 (ZeU l.2.2.2.1 7) (ZeU c.2.2.2.2.2.2.2.1 6)) (ZeU l.2.2.2.2.2.2.1 5)) (ZeU l.2.2.2.2.2.2.2.1 4)) (ZeU x1 3)) (andI u8 c.2.2.2.2.2.1 7),c.1,c.2.1,c.2.2.1,c.2.2.2.1,c.2.2.2.2.1,c.2.2.2.2.2.1,c.2.2.2.2.2.2.1,c.2.2.2.2.2.2.2.1,c.2.2.2.2.2.2.2.2.1,c.2.2.2.2.2.2.2.2.2.1,false,false,c.2.2.2.2.2.2.2.2.2.2.2.2)))) (.Lf none)) (.Lf none)) (.Lf none)) (.Lf none)) (.Lf none)
def rRim (c:TC) (l:QT0):Int×TC:=getO ZxF.Df (ZDv c l).val
def ZKT (c:TC) (l:QT0):Bool:=okB (ZDv c l).val
def rRimE:En:=Zi ZDu ZxF (λa=>some (ZKT a.1 a.2)) (λa=>rRim a.1 a.2)
theorem ZKS:Zd prog 159 rRimE:=
 pureP 255 [(217,ZEI)] [] ZDu ZxF ⟨ZEH,Tv⟩ Tryz.func159 Tryz.call159 trivial (t:=λa=>ZDv a.1 a.2)
abbrev ZJc:List Sh:=[Sh.agg ZW,Sh.one (R.int u8)]
abbrev ZJd:Rs:=Rs.one (Sh.agg ZW)
def ZKP (c:TC) (a:Int):RT TC:=
 .Lf ((c.1,c.2.1,c.2.2.1,c.2.2.2.1,c.2.2.2.2.1,bif andI u8 a 8 !=0 then andI u8 a 7 else c.2.2.2.2.2.1,c.2.2.2.2.2.2.1,!andI u8 a 16 !=0&&c.2.2.2.2.2.2.2.1,c.2.2.2.2.2.2.2.2.1,c.2.2.2.2.2.2.2.2.2.1,c.2.2.2.2.2.2.2.2.2.2.1,c.2.2.2.2.2.2.2.2.2.2.2.1,bif andI u8 a 64 !=0 then andI u8 a 128 !=0 else c.2.2.2.2.2.2.2.2.2.2.2.2))
def rSim (c:TC) (a:Int):TC:=(ZKP c a).val
def ZMp:En:=Zi ZJc ZJd (λ_=>none) (λa=>rSim a.1 a.2)
theorem ZKO:Zd prog 160 ZMp:=
 pureQ 31 [] [] ZJc ZJd trivial Tryz.func160 Tryz.call160 trivial (t:=λa=>ZKP a.1 a.2)
abbrev Zx9:List Sh:=[Sh.one (R.int i64),Sh.agg rcF7]
abbrev Zya:Rs:=Rs.one (Sh.one R.bool)
def ZEb (c:Int) (f:TF):RT (Bool):=
 .br (c==0) (.Lf (!f.2.1)) (.br (c==1) (.Lf f.2.1) (.br (c==2) (.Lf (!f.2.2.2.2.2.2)) (.br (c==3) (.Lf f.2.2.2.2.2.2) (.br (c==4) (.Lf (!f.2.2.2.2.1)) (.br (c==5) (.Lf f.2.2.2.2.1) (.br (c==6) (.Lf (!f.1)) (.br (c==7) (.Lf f.1) (.br (c==8) (.Lf (!f.2.2.1)) (.br (c==9) (.Lf f.2.2.1) (.br (c==10) (.Lf f.2.2.2.2.2.1) (.Lf (c==11))))))))))))
def ZfP (c:Int) (f:TF):Bool:=(ZEb c f).val
def ZEc:En:=Zi Zx9 Zya (λ_=>none) (λa=>ZfP a.1 a.2)
theorem ZEa:Zd prog 220 ZEc:=
 pureQ 2397219371124831 [] [] Zx9 Zya trivial Tryz.func220 Tryz.call220 trivial (t:=λa=>ZEb a.1 a.2)
abbrev Zq5:List Sh:=[Sh.one (R.int i64)]
abbrev Zq6:Rs:=Rs.one (Sh.one (R.int u16))
def Zxt (s:Int):RT (Int):=
 .br (s==1) (.Lf (36)) (.br (s==2) (.Lf (60)) (.br (s==3) (.Lf (52)) (.br (s==4) (.Lf (44)) (.Lf (0)))))
def Zu (s:Int):Int:=(Zxt s).val
def Zxu:En:=Zi Zq5 Zq6 (λ_=>none) (λa=>Zu a)
theorem ZzW:Zd prog 152 Zxu:=
 pureQ 1367 [] [] Zq5 Zq6 trivial Tryz.func152 Tryz.call152 trivial (t:=λa=>Zxt a)
abbrev ZkF:List Sh:=[Sh.one (R.int i64)]
abbrev ZkG:Rs:=Rs.one (Sh.one R.bool)
def ZhH (s:Int):RT (Bool):=
 .Lf (decide (s>=1)&&decide (s<=4))
def Za (s:Int):Bool:=(ZhH s).val
def Zfr:En:=Zi ZkF ZkG (λ_=>none) (λa=>Za a)
theorem ZeT:Zd prog 104 Zfr:=
 pureQ 7 [] [] ZkF ZkG trivial Tryz.func104 Tryz.call104 trivial (t:=λa=>ZhH a)
abbrev ZmB:List Sh:=[Sh.one (R.int u8)]
abbrev ZmC:Rs:=Rs.tup [Sh.agg (R.Pq (R.int i64) (R.Pq (R.int i64) (R.Pq (R.int i64) (R.Pq (R.int i64) (R.Pq (R.int i64) (R.Pq (R.int i64) (R.Pq (R.int i64) (R.int i64)))))))),Sh.one R.bool]
def Zrf (op:Int):RT (TI×Bool):=
 .br (op==8) (.Lf (((40,1,0,0,0,0,0,0),true))) (.br (op==16) (.Lf (((41,1,0,0,0,0,0,0),true))) (.br (op==24) (.Lf (((42,1,0,0,0,0,0,0),true))) (.br (op==32) (.Lf (((38,1,0,0,0,0,0,0),true))) (.br (op==40) (.Lf (((43,2,0,0,0,0,0,0),true))) (.br (op==48) (.Lf (((39,1,0,0,0,0,0,0),true))) (.br (op==56) (.Lf (((44,2,0,0,0,0,0,0),true))) (.br (op==203) (.Lf (((45,1,0,0,0,0,10,0),true))) (.br (op==217) (.Lf (((46,1,0,0,0,0,0,0),true))) (.br (op==221) (.Lf (((24,3,0,0,0,0,8,0),true))) (.br (op==237) (.Lf (((47,1,0,0,0,0,0,0),true))) (.br (op==253) (.Lf (((24,3,0,0,0,0,9,0),true))) (.Lf (((0,0,0,0,0,0,0,0),false))))))))))))))
def Zn6 (op:Int):TI×Bool:=(Zrf op).val
def Zrg:En:=Zi ZmB ZmC (λ_=>none) (λa=>Zn6 a)
theorem Zun:Zd prog 173 Zrg:=
 pureQ 314146179375 [] [] ZmB ZmC trivial Tryz.func173 Tryz.call173 trivial (t:=λa=>Zrf a)
abbrev ZDS:List Sh:=[Sh.one (R.int i64),Sh.one (R.int i64),Sh.one (R.int i64),Sh.one (R.int i64)]
abbrev ZuD:Rs:=Rs.one (Sh.agg (R.Pq (R.int i64) (R.Pq (R.int i64) (R.Pq (R.int i64) (R.Pq (R.int i64) (R.Pq (R.int i64) (R.Pq (R.int i64) (R.Pq (R.int i64) (R.int i64)))))))))
def ZDT (y:Int) (z:Int) (p:Int) (q:Int):RT (Option TI):=
 let x1:=decide (0<=i64.wrap (y-4)/\i64.wrap (y-4)<4)
 .br (z==0) (.Lf (some ((1,1,0,0,0,0,0,0)))) (.br (z==1) (.br (q==0) (.Lf (some ((4,3,0,0,p,0,0,0)))) (.Lf (some ((18,1,0,0,p,0,0,0))))) (.br (!z==2||((bif y==0 then y==0 else y==2)||((bif y==1 then y==1 else y==3)||x1))) (.br (z==2) (.br (bif y==0 then y==0 else y==2) (.Lf (some ((10,1,0,0,p,0,0,0)))) (.br (bif y==1 then y==1 else y==3) (.Lf (some ((9,1,0,0,p,0,0,0)))) (.Lf (some ((bif i64.wrap (y-4)==0 then 8 else bif i64.wrap (y-4)== ↑(0+1) then 7 else bif i64.wrap (y-4)== ↑(0+1+1) then 6 else 5,3,0,0,0,0,0,0)))))) (.br (!z==3||decide (0<=q/\q<2)) (.br (z==3) (.Lf (some ((bif q==0 then 16 else 17,1,0,0,p,0,0,0)))) (.br (z==4) (.Lf (some ((14,1,y,0,0,0,0,0)))) (.br (z==5) (.Lf (some ((15,1,y,0,0,0,0,0)))) (.br (z==6) (.Lf (some ((3,2,y,0,0,0,0,0)))) (.br (decide (y<4)) (.Lf (some ((23,1,0,0,0,y,0,0)))) (.br (x1) (.Lf (some ((bif i64.wrap (y-4)==0 then 19 else bif i64.wrap (y-4)== ↑(0+1) then 20 else bif i64.wrap (y-4)== ↑(0+1+1) then 21 else 22,1,0,0,0,0,0,0)))) (.Lf none))))))) (.Lf none))) (.Lf none)))
def ZMx (y:Int) (z:Int) (p:Int) (q:Int):QT5:=getO ZuD.Df (ZDT y z p q).val
def ZJp (y:Int) (z:Int) (p:Int) (q:Int):Bool:=okB (ZDT y z p q).val
def ZJo:En:=Zi ZDS ZuD (λa=>some (ZJp a.1 a.2.1 a.2.2.1 a.2.2.2)) (λa=>ZMx a.1 a.2.1 a.2.2.1 a.2.2.2)
theorem ZHK:Zd prog 174 ZJo:=
 pureP 19211217472071167 [] [] ZDS ZuD trivial Tryz.func174 Tryz.call174 trivial (t:=λa=>ZDT a.1 a.2.1 a.2.2.1 a.2.2.2)
abbrev Zx0:List Sh:=[Sh.one (R.int i64),Sh.one (R.int i64),Sh.one (R.int i64),Sh.one (R.int i64)]
abbrev Zoi:Rs:=Rs.one (Sh.agg (R.Pq (R.int i64) (R.Pq (R.int i64) (R.Pq (R.int i64) (R.Pq (R.int i64) (R.Pq (R.int i64) (R.Pq (R.int i64) (R.Pq (R.int i64) (R.int i64)))))))))
def ZuE (y:Int) (z:Int) (p:Int) (q:Int):RT (Option TI):=
 .br (z==0) (.Lf (some ((26,1,0,0,0,0,y,0)))) (.br (z==1) (.br (q==0) (.Lf (some ((31,1,0,0,p,0,0,0)))) (.br (y==5) (.Lf (some ((28,1,0,0,0,0,0,0)))) (.br (y==7) (.Lf (some ((29,1,0,0,0,0,0,0)))) (.Lf (some ((26,1,0,0,0,0,11,0))))))) (.br (z==2||(!z==3||((bif y==0 then y==0 else y==1)||(y==2||(y==3||decide (0<=i64.wrap (y-4)/\i64.wrap (y-4)<4)))))) (.br (z==2) (.Lf (some ((24,3,0,0,0,0,y,0)))) (.br (z==3) (.br (bif y==0 then y==0 else y==1) (.Lf (some ((24,3,0,0,0,0,11,0)))) (.br (y==2) (.Lf (some ((34,2,0,0,0,0,0,0)))) (.br (y==3) (.Lf (some ((33,2,0,0,0,0,0,0)))) (.Lf (some ((bif i64.wrap (y-4)==0 then 32 else bif i64.wrap (y-4)== ↑(0+1) then 11 else bif i64.wrap (y-4)== ↑(0+1+1) then 36 else 35,1,0,0,0,0,0,0))))))) (.br (z==4) (.Lf (some ((25,3,0,0,0,0,y,0)))) (.br (z==5) (.br (q==0) (.Lf (some ((30,1,0,0,p,0,0,0)))) (.Lf (some ((25,3,0,0,0,0,11,0))))) (.br (z==6) (.Lf (some ((13,2,0,0,0,y,0,0)))) (.Lf (some ((27,1,0,0,0,0,0,y))))))))) (.Lf none)))
def ZJq (y:Int) (z:Int) (p:Int) (q:Int):QT5:=getO Zoi.Df (ZuE y z p q).val
def ZDW (y:Int) (z:Int) (p:Int) (q:Int):Bool:=okB (ZuE y z p q).val
def ZDV:En:=Zi Zx0 Zoi (λa=>some (ZDW a.1 a.2.1 a.2.2.1 a.2.2.2)) (λa=>ZJq a.1 a.2.1 a.2.2.1 a.2.2.2)
theorem ZDU:Zd prog 175 ZDV:=
 pureP 2324988294374376959 [] [] Zx0 Zoi trivial Tryz.func175 Tryz.call175 trivial (t:=λa=>ZuE a.1 a.2.1 a.2.2.1 a.2.2.2)
abbrev ZgS:List Sh:=[Sh.one (R.int i64),Sh.one (R.int u8)]
abbrev ZgT:Rs:=Rs.one (Sh.agg (R.Pq (R.int i64) (R.Pq (R.int i64) (R.Pq (R.int i64) (R.Pq (R.int i64) (R.Pq (R.int i64) (R.Pq (R.int i64) (R.Pq (R.int i64) (R.int i64)))))))))
def Zen (chip:Int) (op:Int):RT (Option TI):=
 .br ((Zn6 op).2&&rOn chip) (.Lf (some (Zn6 op).1)) (.br (!shrI u8 op 6==0||ZJp (i64.wrap (andI u8 (shrI u8 op 3) 7)) (i64.wrap (andI u8 op 7)) (shrI i64 (i64.wrap (andI u8 (shrI u8 op 3) 7)) 1) (andI i64 (i64.wrap (andI u8 (shrI u8 op 3) 7)) 1)) (.br (shrI u8 op 6==0) (.Lf (some (ZMx (i64.wrap (andI u8 (shrI u8 op 3) 7)) (i64.wrap (andI u8 op 7)) (shrI i64 (i64.wrap (andI u8 (shrI u8 op 3) 7)) 1) (andI i64 (i64.wrap (andI u8 (shrI u8 op 3) 7)) 1)))) (.br (shrI u8 op 6==1) (.br (op==118) (.Lf (some ((37,1,0,0,0,0,0,0)))) (.Lf (some ((2,1,i64.wrap (andI u8 (shrI u8 op 3) 7),i64.wrap (andI u8 op 7),0,0,0,0))))) (.br (shrI u8 op 6==2) (.Lf (some ((12,1,0,i64.wrap (andI u8 op 7),0,i64.wrap (andI u8 (shrI u8 op 3) 7),0,0)))) (.br (ZDW (i64.wrap (andI u8 (shrI u8 op 3) 7)) (i64.wrap (andI u8 op 7)) (shrI i64 (i64.wrap (andI u8 (shrI u8 op 3) 7)) 1) (andI i64 (i64.wrap (andI u8 (shrI u8 op 3) 7)) 1)) (.Lf (some (ZJq (i64.wrap (andI u8 (shrI u8 op 3) 7)) (i64.wrap (andI u8 op 7)) (shrI i64 (i64.wrap (andI u8 (shrI u8 op 3) 7)) 1) (andI i64 (i64.wrap (andI u8 (shrI u8 op 3) 7)) 1)))) (.Lf none))))) (.Lf none))
def Zc (chip:Int) (op:Int):QT5:=getO ZgT.Df (Zen chip op).val
def ZiX (chip:Int) (op:Int):Bool:=okB (Zen chip op).val
def ZHV:En:=Zi ZgS ZgT (λa=>some (ZiX a.1 a.2)) (λa=>Zc a.1 a.2)
theorem ZA1:Zd prog 107 ZHV:=
 pureP 70644158956031 [(146,rOnE),(173,Zrg),(174,ZJo),(175,ZDV)] [] ZgS ZgT ⟨Zde,Zun,ZHK,ZDU,Tv⟩ Tryz.func107 Tryz.call107 trivial (t:=λa=>Zen a.1 a.2)
theorem ZnX (b:Bool) (n:Int) (h:0<=n):ZcU b n=true/\rBit b n=bif b then shlI .u8 1 n else 0:=by cases b<;>simp[ZcU,rBit,ZHW,RT.val,h,okB,getO]
theorem Zcd (chip:Int):rOn chip=(chip==2):=rfl
theorem ZKF (chip:Int) (f):ZxY chip f=true:=by cases h:chip==2<;>simp[ZxY,ZxX,RT.val,ZnX,Zcd,okB,h]
theorem ZNe (r) (n:Int):Zvq r n=true:=by
 have:=and7 n;have h:decide (0<=andI .i64 n 7/\andI .i64 n 7<8)=true:=by simp;omega
 simp only[Zvq,ZAm,RT.val,h,Ya,okB]
theorem ZKE (r) (n:Int):ZDL r n=true:=by simp only[ZDL,Zrs,RT.val,ZNe];cases andI .i64 n 3==3<;>simp[okB]
theorem ZMj (chip:Int) (r):ZKW chip r=true:=by simp[ZKW,ZHH,RT.val,ZKF,okB]
theorem ZMi (op a:Int) (c:Bool):ZKR op a c=true:=by
 have h3:=and3 op;simp only[ZKR,ZHt,RT.val,(ZnX c 0 (by decide)).1,(ZnX c 7 (by decide)).1];generalize andI .i64 op 3=m at*;have:m=0\/m=1\/m=2\/m=3:=by omega
 rcases this with rfl|rfl|rfl|rfl<;>rfl
theorem ZKD (v:Int) (c:Bool):ZDA v c=true:=by have hb:=ZnX c 0 (by decide);simp[ZDA,ZxM,RT.val,hb.1,okB]
theorem ZLg (c l):ZMT c l=true/\pRim c l=rRim c l/\ZKT c l=true:=by
 have h:∀b n,0<=n->Zcw b n=true/\ZvM b n=bif b then shlI .u8 1 n else 0:=λb n h=>by cases b<;>simp[Zcw,ZvM,ZET,RT.val,h,okB,getO]
 have h3:∀b,Zag b 3=true/\ZeU b 3=bif b then shlI .u8 1 3 else 0:=λb=>by cases b<;>exact⟨rfl,rfl⟩
 have h4:∀b,Zag b 4=true/\ZeU b 4=bif b then shlI .u8 1 4 else 0:=λb=>by cases b<;>exact⟨rfl,rfl⟩
 have h5:∀b,Zag b 5=true/\ZeU b 5=bif b then shlI .u8 1 5 else 0:=λb=>by cases b<;>exact⟨rfl,rfl⟩
 have h6:∀b,Zag b 6=true/\ZeU b 6=bif b then shlI .u8 1 6 else 0:=λb=>by cases b<;>exact⟨rfl,rfl⟩
 have h7:∀b,Zag b 7=true/\ZeU b 7=bif b then shlI .u8 1 7 else 0:=λb=>by cases b<;>exact⟨rfl,rfl⟩
 simp[ZMT,pRim,ZLm,ZKT,rRim,ZDv,RT.val,h,h3,h4,h5,h6,h7,okB,getO]
theorem ZER (chip op:Int) (h:chip≠2):(Zfv chip op).val=(Zfv 0 op).val:=by
 have h1:(chip==2)=false:=by simpa using h
 have h0:((0:Int)==2)=false:=rfl;simp only[Zfv,RT.val,h1,h0]
theorem Zq1 (chip op:Int) (h:chip≠2):(Zen chip op).val=(Zen 0 op).val:=by
 have h1:rOn chip=false:=by simpa [Zcd] using h
 have h0:rOn 0=false:=rfl;simp only[Zen,RT.val,h1,h0]
def decT (chip op:Int):Bool:=okB (Zfv chip op).val&&okB (Zen chip op).val&&(Zpy chip op==Zc chip op)
theorem dec_ok (chip op:Int) (h:inR .u8 op):Zpx chip op=true/\Zpy chip op=Zc chip op/\ZiX chip op=true:=by
 have fin:∀c,decT c op=true->Zpx c op=true/\Zpy c op=Zc c op/\ZiX c op=true:=by intro c hc;simp only[decT,Yc,beq_iff_eq] at hc;exact⟨hc.1.1,hc.2,hc.1.2⟩
 by_cases hc:chip=2
 ·subst hc;exact fin 2 (Zjc (decT 2) (by kernel_rfl) op h)
 ·have:=fin 0 (Zjc (decT 0) (by kernel_rfl) op h);unfold Zpx Zpy Zc ZiX at this|-;rw[ZER chip op hc,Zq1 chip op hc];exact this
def ZkH:En:=Zi ZEe Zyb (λ_=>none) (λa=>rGet a.1 a.2)
theorem ZoA:Zd prog 163 ZkH:=ZEd.tot (λa h=>by have h1:=ZNe a.1 a.2;simp[h1]) (λa h=>rfl)
def ZeQ:En:=Zi ZuA Zoh (λ_=>none) (λa=>Zab a.1 a.2)
theorem ZgO:Zd prog 158 ZeQ:=ZHF.tot (λa h=>by have h1:=ZKE a.1 a.2;simp[h1]) (λa h=>rfl)
def ZDO:En:=Zi ZDN ZxZ (λ_=>none) (λa=>rPSW a.1 a.2)
theorem ZHI:Zd prog 171 ZDO:=ZKV.tot (λa h=>by have h1:=ZMj a.1 a.2;simp[h1]) (λa h=>rfl)
def ZDt:En:=Zi ZDs ZxE (λ_=>none) (λa=>rRot a.1 a.2.1 a.2.2)
theorem ZHu:Zd prog 213 ZDt:=ZKQ.tot (λa h=>by have h1:=ZMi a.1 a.2.1 a.2.2;simp[h1]) (λa h=>rfl)
def Zuv:En:=Zi Zuu Zoc (λ_=>none) (λa=>ZHy a.1 a.2)
theorem ZDB:Zd prog 216 Zuv:=ZHx.tot (λa h=>by have h1:=ZKD a.1 a.2;simp[h1]) (λa h=>rfl)
def ZJg:En:=Zi ZDu ZxF (λ_=>none) (λa=>rRim a.1 a.2)
theorem ZHv:Zd prog 159 ZJg:=ZKS.tot (λa h=>by have h1:=(ZLg a.1 a.2).2.2;simp[h1]) (λa h=>rfl)
def ZrC:En:=Zi ZgS ZgT (λ_=>none) (λa=>Zc a.1 a.2)
theorem ZkJ:Zd prog 107 ZrC:=ZA1.tot (λa h=>by have h1:=(dec_ok a.1 a.2 h.2).2.2;simp[h1]) (λa h=>rfl)
abbrev ZNc:R:=R.Pq (.int .i64) (R.Pq (.int .i64) (R.Pq (.int .i64) (R.Pq (.int .i64) (R.Pq (.int .i64) (R.Pq (.int .i64) (.int .i64))))))
def ZEA (k:Int):En:=pinE ZgS ZNc (λa=>Zc a.1 a.2) k
theorem Zyk (k:Int):Zd Tryz.prog 107 (ZEA k):=ZLk ZkJ k
def pcOf (c:TC):Int:=c.2.1.2.2.2.2.2.2.2.2.2
def spOf (c:TC):Int:=c.2.1.2.2.2.2.2.2.2.2.1
def rgx (r:TR) (f:TF) (sp pc:Int):TR:=(r.1,r.2.1,r.2.2.1,r.2.2.2.1,r.2.2.2.2.1,r.2.2.2.2.2.1,r.2.2.2.2.2.2.1,f,sp,pc)
def fin3 (g:List Int) (l:List TY):RT (Option (TY×Bool)):=.br (decide (iN (List.length g)>=iN (List.length l))) (.Lf (some (((0,0,0,0),false)))) (.br (Ze (iN (List.length g)) (List.length l)) (.Lf (some ((R.get RY l (iN (List.length g)),true)))) (.Lf none))
def ZBf (s:Int):RT (Bool):=
 .Lf (decide (s>=1)&&decide (s<=4))
def Zh (s:Int):Bool:=(ZBf s).val
abbrev qAtRs:Rs:=Rs.one (Sh.one (R.int u8))
def qAtT (s:QT1) (n:Int):RT (Option (Int)):=
 .br (!decide (n< ↑(List.length s.2.2.1))||Ze n (List.length s.2.2.1)) (.br (decide (n< ↑(List.length s.2.2.1))) (.Lf (some (R.get (R.int u8) s.2.2.1 n))) (.Lf (some (0)))) (.Lf none)
def qAt (s:QT1) (n:Int):Int:=getO qAtRs.Df (qAtT s n).val
def qAtC (s:QT1) (n:Int):Bool:=okB (qAtT s n).val
abbrev ZLf:Rs:=Rs.one (Sh.one (R.int u16))
def Zyr (s:QT1) (n:Int):RT (Option (Int)):=
 .br (!qAtC s (i64.wrap (n+1))||qAtC s n) (.br (qAtC s (i64.wrap (n+1))) (.Lf (some (Zcv (qAt s (i64.wrap (n+1))) (qAt s n)))) (.Lf none)) (.Lf none)
def ZrJ (s:QT1) (n:Int):Int:=getO ZLf.Df (Zyr s n).val
def ZgV (s:QT1) (n:Int):Bool:=okB (Zyr s n).val
def ZHZ (s:QT1):RT (Int):=
 .br s.2.1 (.Lf s.1.2.1.2.2.2.2.2.2.2.2.2) (.Lf (u16.wrap (s.1.2.1.2.2.2.2.2.2.2.2.2+u16.wrap s.2.2.2.1.2.1)))
def Zpj (s:QT1):Int:=(ZHZ s).val
def ZLe (s:QT1):RT (Bool):=
 .Lf (ZfP s.2.2.2.1.2.2.2.2.2.2.1 s.1.2.1.2.2.2.2.2.2.2.1)
def ZrH (s:QT1):Bool:=(ZLe s).val
def qRegT (s:QT1) (n:Int):RT (Int):=
 .Lf (rGet s.1.2.1 n)
def qReg (s:QT1) (n:Int):Int:=(qRegT s n).val
def ZMP (s:QT1) (n:Int):RT (Int):=
 .Lf (Zab s.1.2.1 n)
def ZkL (s:QT1) (n:Int):Int:=(ZMP s n).val
abbrev ZA6:Rs:=Rs.one (Sh.one (R.int u8))
def ZkN (s:QT1):RT (Option (Int)):=
 .br (qAtC s 1) (.Lf (some (bif s.2.2.2.1.1==14 then (rInr s.1.1 (qAt s 1) s.1.2.1.2.2.2.2.2.2.2.1).1 else (rDcr s.1.1 (qAt s 1) s.1.2.1.2.2.2.2.2.2.2.1).1))) (.Lf none)
def Zi0 (s:QT1):Int:=getO ZA6.Df (ZkN s).val
def ZgW (s:QT1):Bool:=okB (ZkN s).val
abbrev ZA5:Rs:=Rs.one (Sh.one (R.int u8))
def ZkM (s:QT1):RT (Option (Int)):=
 let x1:=s.2.2.2.1.1==13||s.2.2.2.1.2.2.2.1==6
 .br (!x1||qAtC s 1) (.br (x1) (.Lf (some (qAt s 1))) (.Lf (some (qReg s s.2.2.2.1.2.2.2.1)))) (.Lf none)
def Zyq (s:QT1):Int:=getO ZA5.Df (ZkM s).val
def ZrI (s:QT1):Bool:=okB (ZkM s).val
abbrev ZM4:R:=R.Pq ZW (R.Pq R.bool (R.Pq (R.sl (R.int u8)) (R.sl (RY))))
abbrev ZM3:List Sh:=[Sh.one (R.int i64)]
abbrev ZLB:Rs:=Rs.one (Sh.one (R.int u8))
def mAtT (s:QT2) (n:Int):RT (Option (Int)):=
 .br (!decide (n< ↑(List.length s.2.2.1))||Ze n (List.length s.2.2.1)) (.br (decide (n< ↑(List.length s.2.2.1))) (.Lf (some (R.get (R.int u8) s.2.2.1 n))) (.Lf (some (0)))) (.Lf none)
def mAt (s:QT2) (n:Int):Int:=getO ZLB.Df (mAtT s n).val
def mAtC (s:QT2) (n:Int):Bool:=okB (mAtT s n).val
def mAtE:En:=Zue ZM4 ZM3 ZLB (λa=>some (mAtC a.1 a.2)) (λa=>mAt a.1 a.2)
theorem ZsO:Zd prog 153 mAtE:=
 ZqZ (P:=prog) (n:=31) (k:=8) (l:=[]) (ol:=[]) trivial Tryz.func153 rfl (by kernel_rfl) Tryz.call153 trivial (rb:=ZM4) (ts:=ZM3) (rs:=ZLB) (by kernel_rfl) (t:=λa=>mAtT a.1 a.2) (λa=>by kernel_rfl)
abbrev ZFv:R:=R.Pq ZW (R.Pq R.bool (R.Pq (R.sl (R.int u8)) (R.sl (RY))))
abbrev ZFu:List Sh:=[Sh.one (R.int i64)]
abbrev Zwd:Rs:=Rs.one (Sh.one (R.int u16))
def ZyW (s:QT2) (n:Int):RT (Option (Int)):=
 .br (!mAtC s (i64.wrap (n+1))||mAtC s n) (.br (mAtC s (i64.wrap (n+1))) (.Lf (some (Zcv (mAt s (i64.wrap (n+1))) (mAt s n)))) (.Lf none)) (.Lf none)
def ZdL (s:QT2) (n:Int):Int:=getO Zwd.Df (ZyW s n).val
def ZbC (s:QT2) (n:Int):Bool:=okB (ZyW s n).val
def Zlk:En:=Zue ZFv ZFu Zwd (λa=>some (ZbC a.1 a.2)) (λa=>ZdL a.1 a.2)
theorem ZpN:Zd prog 165 Zlk:=
 ZqZ (P:=prog) (n:=31) (k:=8) (l:=[(153,mAtE),(172,ZkE)]) (ol:=[]) ⟨ZsO,ZgQ,Tv⟩ Tryz.func165 rfl (by kernel_rfl) Tryz.call165 trivial (rb:=ZFv) (ts:=ZFu) (rs:=Zwd) (by kernel_rfl) (t:=λa=>ZyW a.1 a.2) (λa=>by kernel_rfl)
abbrev ZsN:R:=R.Pq ZW (R.Pq R.bool (R.Pq (R.sl (R.int u8)) (R.sl (RY))))
abbrev ZsL:List Sh:=[Sh.one (R.int i64)]
abbrev ZsM:Rs:=Rs.one (Sh.one (R.int u16))
def Zy2 (s:QT2) (n:Int):RT (Int):=
 .br s.2.1 (.Lf s.1.2.1.2.2.2.2.2.2.2.2.2) (.Lf (u16.wrap (s.1.2.1.2.2.2.2.2.2.2.2.2+u16.wrap n)))
def Zo (s:QT2) (n:Int):Int:=(Zy2 s n).val
def ZfB:En:=Zue ZsN ZsL ZsM (λ_=>none) (λa=>Zo a.1 a.2)
theorem ZhV:Zd prog 157 ZfB:=
 Zxq (P:=prog) (n:=31) (k:=8) (l:=[]) (ol:=[]) trivial Tryz.func157 rfl (by kernel_rfl) Tryz.call157 trivial (rb:=ZsN) (ts:=ZsL) (rs:=ZsM) (by kernel_rfl) (t:=λa=>Zy2 a.1 a.2) (λa=>by kernel_rfl)
abbrev ZyZ:R:=R.Pq ZW (R.Pq R.bool (R.Pq (R.sl (R.int u8)) (R.sl (RY))))
abbrev ZyX:List Sh:=[Sh.agg (R.Pq (R.int i64) (R.Pq (R.int i64) (R.Pq (R.int i64) (R.Pq (R.int i64) (R.Pq (R.int i64) (R.Pq (R.int i64) (R.Pq (R.int i64) (R.int i64))))))))]
abbrev ZyY:Rs:=Rs.one (Sh.one R.bool)
def ZFw (s:QT2) (i:QT5):RT (Bool):=
 .Lf (ZfP i.2.2.2.2.2.2.1 s.1.2.1.2.2.2.2.2.2.2.1)
def ZdC (s:QT2) (i:QT5):Bool:=(ZFw s i).val
def Zgh:En:=Zue ZyZ ZyX ZyY (λ_=>none) (λa=>ZdC a.1 a.2)
theorem Zll:Zd prog 169 Zgh:=
 Zxq (P:=prog) (n:=31) (k:=8) (l:=[(220,ZEc)]) (ol:=[]) ⟨ZEa,Tv⟩ Tryz.func169 rfl (by kernel_rfl) Tryz.call169 trivial (rb:=ZyZ) (ts:=ZyX) (rs:=ZyY) (by kernel_rfl) (t:=λa=>ZFw a.1 a.2) (λa=>by kernel_rfl)
abbrev Zmz:List Sh:=[Sh.agg ZW,Sh.agg (R.Pq (R.int i64) (R.Pq (R.int i64) (R.Pq (R.int i64) (R.Pq (R.int i64) (R.Pq (R.int i64) (R.Pq (R.int i64) (R.Pq (R.int i64) (R.int i64)))))))),Sh.one (R.int u8)]
abbrev ZmA:Rs:=Rs.tup [Sh.one (R.int u8),Sh.agg rcF7]
def Zrc (c:TC) (i:QT5) (v:Int):RT (QT3):=
 .br (i.1==14) (.Lf (rInr c.1 v c.2.1.2.2.2.2.2.2.2.1)) (.Lf (rDcr c.1 v c.2.1.2.2.2.2.2.2.2.1))
def Zfn (c:TC) (i:QT5) (v:Int):QT3:=(Zrc c i v).val
def ZeO:En:=Zi Zmz ZmA (λ_=>none) (λa=>Zfn a.1 a.2.1 a.2.2)
theorem ZjO:Zd prog 166 ZeO:=
 pureQ 255 [(218,ZME),(219,ZMM)] [] Zmz ZmA ⟨ZK0,ZK8,Tv⟩ Tryz.func166 Tryz.call166 trivial (t:=λa=>Zrc a.1 a.2.1 a.2.2)
abbrev Zye:List Sh:=[Sh.one (R.int i64),Sh.one (R.int u8)]
abbrev Zyf:Rs:=Rs.one (Sh.one (R.int i64))
def Zvr (chip:Int) (op:Int):RT (Int):=
 let x1:=bif (Zc chip op).1==14 then (Zc chip op).1==14 else (Zc chip op).1==15
 let x2:= !(Zc chip op).1==2&&(!x1&&((bif (Zc chip op).1==16 then (Zc chip op).1==16 else bif (Zc chip op).1==17 then (Zc chip op).1==17 else bif (Zc chip op).1==28 then (Zc chip op).1==28 else bif (Zc chip op).1==29 then (Zc chip op).1==29 else bif (Zc chip op).1==25 then (Zc chip op).1==25 else bif (Zc chip op).1==27 then (Zc chip op).1==27 else bif (Zc chip op).1==30 then (Zc chip op).1==30 else (Zc chip op).1==45)||(Zc chip op).1==26&&(Zc chip op).2.2.2.2.2.2.1 !=11))
 .br (rOn chip&&x2) (.Lf (6)) (.br (rOn chip&&(Zc chip op).1==37) (.Lf (5)) (.br (!rOn chip&&(x2||bif (Zc chip op).1==2 then (Zc chip op).2.2.1 !=6&&(Zc chip op).2.2.2.1 !=6 else x1&&(Zc chip op).2.2.1 !=6)) (.Lf (5)) (.Lf (4))))
def ZgR (chip:Int) (op:Int):Int:=(Zvr chip op).val
def Zvs:En:=Zi Zye Zyf (λ_=>none) (λa=>ZgR a.1 a.2)
theorem ZrB:Zd prog 116 Zvs:=
 pureQ 144687209545474303 [(107,ZrC),(146,rOnE)] [] Zye Zyf ⟨ZkJ,Zde,Tv⟩ Tryz.func116 Tryz.call116 trivial (t:=λa=>Zvr a.1 a.2)
abbrev Zx7:List Sh:=[Sh.agg ZW,Sh.agg (R.Pq R.bool (R.Pq R.bool rcF7))]
abbrev Zx8:Rs:=Rs.one (Sh.agg ZW)
def Zvo (c:TC) (l:QT0):RT TC:=
 .br (!rOn c.1)
 (.Lf (c))
 (.Lf ((c.1,c.2.1,c.2.2.1,c.2.2.2.1,c.2.2.2.2.1,c.2.2.2.2.2.1,l.2.2.2.2.1&&(c.2.2.2.2.2.2.1|| !c.2.2.2.2.2.2.2.2.1),c.2.2.2.2.2.2.2.1||l.2.2.2.2.2.1&& !c.2.2.2.2.2.2.2.2.2.1,l.2.2.2.2.1,l.2.2.2.2.2.1,c.2.2.2.2.2.2.2.2.2.2)))
def Zf (c:TC) (l:QT0):TC:=(Zvo c l).val
def ZkD:En:=Zi Zx7 Zx8 (λ_=>none) (λa=>Zf a.1 a.2)
theorem ZkC:Zd prog 84 ZkD:=
 pureQ 31 [(146,rOnE)] [] Zx7 Zx8 ⟨Zde,Tv⟩ Tryz.func84 Tryz.call84 trivial (t:=λa=>Zvo a.1 a.2)
abbrev ZDI:List Sh:=[Sh.agg ZW,Sh.agg (R.Pq R.bool (R.Pq R.bool rcF7))]
abbrev ZDJ:Rs:=Rs.one (Sh.one (R.int i64))
def ZJj (c:TC) (l:QT0):RT (Int):=
 .br (rOn c.1&&c.2.2.2.2.2.2.1)
 (.Lf (1))
 (.br (!c.2.2.1||c.2.2.2.1)
  (.Lf (0))
  (.br (rOn c.1&&(c.2.2.2.2.2.2.2.1&&andI u8 c.2.2.2.2.2.1 4==0))
  (.Lf (2))
  (.br (rOn c.1&&(l.2.2.2.2.2.2.1&&andI u8 c.2.2.2.2.2.1 2==0))
   (.Lf (3))
   (.br (rOn c.1&&(l.2.2.2.2.2.2.2.1&&andI u8 c.2.2.2.2.2.1 1==0))
   (.Lf (4))
   (.br l.2.2.2.2.2.2.2.2
    (.Lf (5))
    (.Lf (0)))))))
def ZcT (c:TC) (l:QT0):Int:=(ZJj c l).val
def ZDK:En:=Zi ZDI ZDJ (λ_=>none) (λa=>ZcT a.1 a.2)
theorem ZxV:Zd prog 87 ZDK:=
 pureQ 576601524159939135 [(146,rOnE)] [] ZDI ZDJ ⟨Zde,Tv⟩ Tryz.func87 Tryz.call87 trivial (t:=λa=>ZJj a.1 a.2)
abbrev ZrF:List Sh:=[Sh.agg ZW,Sh.one (R.int i64)]
abbrev ZrG:Rs:=Rs.one (Sh.agg ZW)
def ZiZ (c:TC) (s:Int):RT TC:=
 .br (decide (s<1)||decide (s>5))
 (.Lf (c))
 (.Lf ((c.1,c.2.1,false,false,false,c.2.2.2.2.2.1,!s==1&&c.2.2.2.2.2.2.1,!s==2&&c.2.2.2.2.2.2.2.1,c.2.2.2.2.2.2.2.2.1,c.2.2.2.2.2.2.2.2.2.1,s==1||c.2.2.2.2.2.2.2.2.2.2.1,bif s==1 then c.2.2.1 else c.2.2.2.2.2.2.2.2.2.2.2.1,c.2.2.2.2.2.2.2.2.2.2.2.2)))
def Zw (c:TC) (s:Int):TC:=(ZiZ c s).val
def Zyp:En:=Zi ZrF ZrG (λ_=>none) (λa=>Zw a.1 a.2)
theorem ZA4:Zd prog 97 Zyp:=
 pureQ 31 [] [] ZrF ZrG trivial Tryz.func97 Tryz.call97 trivial (t:=λa=>ZiZ a.1 a.2)
abbrev ZxG:List Sh:=[Sh.agg ZW]
abbrev ZxH:Rs:=Rs.one (Sh.agg ZW)
def ZjT (c:TC):RT TC:=
 .Lf ((c.1,(c.2.1.1,c.2.1.2.1,c.2.1.2.2.1,c.2.1.2.2.2.1,c.2.1.2.2.2.2.1,c.2.1.2.2.2.2.2.1,c.2.1.2.2.2.2.2.2.1,c.2.1.2.2.2.2.2.2.2.1,c.2.1.2.2.2.2.2.2.2.2.1,0),false,false,false,bif rOn c.1 then 7 else 0,false,false,false,false,false,false,false))
def ZT (c:TC):TC:=(ZjT c).val
def Zuq:En:=Zi ZxG ZxH (λ_=>none) (λa=>ZT a)
theorem Zro:Zd prog 81 Zuq:=
 pureQ 15 [(146,rOnE)] [] ZxG ZxH ⟨Zde,Tv⟩ Tryz.func81 Tryz.call81 trivial (t:=λa=>ZjT a)
abbrev ZxI:List Sh:=[Sh.one (R.int i64)]
abbrev ZxJ:Rs:=Rs.one (Sh.one R.bool)
def Zur (k:Int):RT (Bool):=
 .Lf (k==1||(k==2||(k==4||(k==6||(k==8||k==9)))))
def Za2 (k:Int):Bool:=(Zur k).val
def ZjU:En:=Zi ZxI ZxJ (λ_=>none) (λa=>Za2 a)
theorem ZgK:Zd prog 103 ZjU:=
 pureQ 7 [] [] ZxI ZxJ trivial Tryz.func103 Tryz.call103 trivial (t:=λa=>Zur a)
abbrev Zpu:List Sh:=[Sh.one (R.int i64)]
abbrev Zpv:Rs:=Rs.one (Sh.one R.bool)
def ZvN (k:Int):RT (Bool):=
 .br (bif k==1 then k==1 else bif k==2 then k==2 else bif k==4 then k==4 else bif k==6 then k==6 else bif k==8 then k==8 else k==9)
 (.Lf (true))
 (.Lf (false))
def ZEV (k:Int):Bool:=(ZvN k).val
def ZLn:En:=Zi Zpu Zpv (λ_=>none) (λa=>ZEV a)
theorem ZEU:Zd prog 114 ZLn:=
 pureQ 23 [] [] Zpu Zpv trivial Tryz.func114 Tryz.call114 trivial (t:=λa=>ZvN a)
abbrev Zq3:List Sh:=[Sh.one (R.int i64)]
abbrev Zq4:Rs:=Rs.one (Sh.one R.bool)
def ZnY (k:Int):RT (Bool):=
 .Lf (k==3||(k==5||k==7))
def Zbx (k:Int):Bool:=(ZnY k).val
def ZnZ:En:=Zi Zq3 Zq4 (λ_=>none) (λa=>Zbx a)
theorem Zmx:Zd prog 100 ZnZ:=
 pureQ 7 [] [] Zq3 Zq4 trivial Tryz.func100 Tryz.call100 trivial (t:=λa=>ZnY a)
abbrev ZkP:List Sh:=[Sh.one (R.int i64)]
abbrev ZkQ:Rs:=Rs.one (Sh.one R.bool)
def Zps (k:Int):RT (Bool):=
 .Lf (k==3||(k==5||k==7))
def ZvJ (k:Int):Bool:=(Zps k).val
def ZH5:En:=Zi ZkP ZkQ (λ_=>none) (λa=>ZvJ a)
theorem ZBc:Zd prog 129 ZH5:=
 pureQ 7 [] [] ZkP ZkQ trivial Tryz.func129 Tryz.call129 trivial (t:=λa=>Zps a)
abbrev ZkR:List Sh:=[Sh.one (R.int i64)]
abbrev ZkS:Rs:=Rs.one (Sh.one (R.int u8))
def Zpt (k:Int):RT (Int):=
 .br (k==1)
 (.Lf (162))
 (.br (k==2)
  (.Lf (130))
  (.br (k==4)
  (.Lf (134))
  (.br (k==5)
   (.Lf (4))
   (.br (k==6)
   (.Lf (66))
   (.br (k==7)
    (.Lf (16))
    (.br (k==8)
    (.Lf (35))
    (.br (k==9)
     (.Lf (3))
     (.br (k==10)
     (.Lf (138))
     (.Lf (0))))))))))
def ZvL (k:Int):Int:=(Zpt k).val
def ZH6:En:=Zi ZkR ZkS (λ_=>none) (λa=>ZvL a)
theorem ZBd:Zd prog 203 ZH6:=
 pureQ 1398103 [] [] ZkR ZkS trivial Tryz.func203 Tryz.call203 trivial (t:=λa=>Zpt a)
abbrev Zrd:List Sh:=[Sh.one (R.int i64)]
abbrev Zre:Rs:=Rs.one (Sh.one (R.int u8))
def Zn4 (k:Int):RT (Int):=
 .br (k==1)
 (.Lf (162))
 (.br (k==2)
  (.Lf (130))
  (.br (k==4)
  (.Lf (134))
  (.br (k==5)
   (.Lf (4))
   (.br (k==6)
   (.Lf (66))
   (.br (k==7)
    (.Lf (16))
    (.br (k==8)
    (.Lf (35))
    (.br (k==9)
     (.Lf (3))
     (.br (k==10)
     (.Lf (138))
     (.Lf (0))))))))))
def ZhF (k:Int):Int:=(Zn4 k).val
def Zxx:En:=Zi Zrd Zre (λ_=>none) (λa=>ZhF a)
theorem Zz0:Zd prog 148 Zxx:=
 pureQ 1398103 [] [] Zrd Zre trivial Tryz.func148 Tryz.call148 trivial (t:=λa=>Zn4 a)
abbrev ZkU:List Sh:=[Sh.one (R.int i64)]
abbrev ZkV:Rs:=Rs.tup [Sh.one R.bool,Sh.one R.bool,Sh.one R.bool]
def Zpw (k:Int):RT (QT26):=
 .br (k==1)
 (.Lf ((false,true,true)))
 (.br (bif k==2 then k==2 else bif k==4 then k==4 else k==11)
  (.Lf ((false,true,false)))
  (.br (bif k==3 then k==3 else k==5)
  (.Lf ((false,false,true)))
  (.br (k==6)
   (.Lf ((true,true,false)))
   (.br (k==7)
   (.Lf ((true,false,true)))
   (.br (bif k==8 then k==8 else bif k==9 then k==9 else k==12)
    (.Lf ((true,true,true)))
    (.Lf ((false,false,false))))))))
def ZvP (k:Int):QT26:=(Zpw k).val
def ZIa:En:=Zi ZkU ZkV (λ_=>none) (λa=>ZvP a)
theorem ZBe:Zd prog 202 ZIa:=
 pureQ 692575 [] [] ZkU ZkV trivial Tryz.func202 Tryz.call202 trivial (t:=λa=>Zpw a)
abbrev Zrz:List Sh:=[Sh.one (R.int i64)]
abbrev ZrA:Rs:=Rs.tup [Sh.one R.bool,Sh.one R.bool,Sh.one R.bool]
def Zoz (k:Int):RT (QT26):=
 .br (k==1)
 (.Lf ((false,true,true)))
 (.br (bif k==2 then k==2 else bif k==4 then k==4 else k==11)
  (.Lf ((false,true,false)))
  (.br (bif k==3 then k==3 else k==5)
  (.Lf ((false,false,true)))
  (.br (k==6)
   (.Lf ((true,true,false)))
   (.br (k==7)
   (.Lf ((true,false,true)))
   (.br (bif k==8 then k==8 else bif k==9 then k==9 else k==12)
    (.Lf ((true,true,true)))
    (.Lf ((false,false,false))))))))
def ZdJ (k:Int):QT26:=(Zoz k).val
def Zx6:En:=Zi Zrz ZrA (λ_=>none) (λa=>ZdJ a)
theorem ZAl:Zd prog 147 Zx6:=
 pureQ 692575 [] [] Zrz ZrA trivial Tryz.func147 Tryz.call147 trivial (t:=λa=>Zoz a)
abbrev ZhM:List Sh:=[Sh.one (R.int i64)]
abbrev ZhN:Rs:=Rs.one (Sh.one R.bool)
def ZgY (k:Int):RT (Bool):=
 .Lf (k !=10&&(k !=11&&k !=12))
def Zi2 (k:Int):Bool:=(ZgY k).val
def ZE4:En:=Zi ZhM ZhN (λ_=>none) (λa=>Zi2 a)
theorem ZvQ:Zd prog 140 ZE4:=
 pureQ 7 [] [] ZhM ZhN trivial Tryz.func140 Tryz.call140 trivial (t:=λa=>ZgY a)
abbrev ZmS:List Sh:=[Sh.one (R.int i64)]
abbrev ZmT:Rs:=Rs.one (Sh.one R.bool)
def ZgU (k:Int):RT (Bool):=
 .Lf (k !=10&&(k !=11&&k !=12))
def Zm (k:Int):Bool:=(ZgU k).val
def ZrE:En:=Zi ZmS ZmT (λ_=>none) (λa=>Zm a)
theorem ZvF:Zd prog 85 ZrE:=
 pureQ 7 [] [] ZmS ZmT trivial Tryz.func85 Tryz.call85 trivial (t:=λa=>ZgU a)
theorem ZHp (k):ZEV k=Za2 k:=by simp[ZEV,ZvN,Za2,Zur,RT.val]
theorem ZBN (k):ZvJ k=Zbx k:=by simp[ZvJ,Zps,Zbx,ZnY,RT.val]
theorem ZC0 (k):ZvL k=ZhF k:=by simp[ZvL,Zpt,ZhF,Zn4,RT.val]
theorem ZFC (k):ZvP k=ZdJ k:=by simp[ZvP,Zpw,ZdJ,Zoz,RT.val]
theorem ZBK (k):Zi2 k=Zm k:=by simp[Zi2,ZgY,Zm,ZgU,RT.val]
def Zfu:En:=Zi Zpu Zpv (λ_=>none) (λa=>Za2 a)
theorem ZhL:Zd prog 114 Zfu:=ZEU.tot (λa h=>by simp) (λa h=>ZHp _)
def ZdY:En:=Zi ZkP ZkQ (λ_=>none) (λa=>Zbx a)
theorem Zgd:Zd prog 129 ZdY:=ZBc.tot (λa h=>by simp) (λa h=>ZBN _)
def ZkT:En:=Zi ZkR ZkS (λ_=>none) (λa=>ZhF a)
theorem ZvK:Zd prog 203 ZkT:=ZBd.tot (λa h=>by simp) (λa h=>ZC0 _)
def ZkW:En:=Zi ZkU ZkV (λ_=>none) (λa=>ZdJ a)
theorem ZvO:Zd prog 202 ZkW:=ZBe.tot (λa h=>by simp) (λa h=>ZFC _)
def ZmW:En:=Zi ZhM ZhN (λ_=>none) (λa=>Zm a)
theorem Zso:Zd prog 140 ZmW:=ZvQ.tot (λa h=>by simp) (λa h=>ZBK _)
def Zbu:En:=.tree (ZaB (envX prog [] [] 7 8) Tryz.f127)
theorem Zdq:Zd prog 127 Zbu:=Zb1 (P:=prog) (n:=7) (k:=8) (l:=[]) (ol:=[]) trivial Tryz.func127 rfl (by kernel_rfl) Tryz.call127 trivial
def ZaU:En:=.tree (ZaB (envX prog [] [] 7 8) Tryz.f128)
theorem Zcn:Zd prog 128 ZaU:=Zb1 (P:=prog) (n:=7) (k:=8) (l:=[]) (ol:=[]) trivial Tryz.func128 rfl (by kernel_rfl) Tryz.call128 trivial
def Zfa:En:=.tree (ZaB (envX prog [(114,Zfu),(127,Zbu),(128,ZaU),(129,ZdY),(202,ZkW)] [] 63 8) Tryz.f130)
theorem Zib:Zd prog 130 Zfa:=Zb1 (P:=prog) (n:=63) (k:=8) (l:=[(114,Zfu),(127,Zbu),(128,ZaU),(129,ZdY),(202,ZkW)]) (ol:=[]) ⟨ZhL,Zdq,Zcn,Zgd,ZvO,Tv⟩ Tryz.func130 rfl (by kernel_rfl) Tryz.call130 trivial
def Zea:En:=.tree (ZaB (envX prog [(114,Zfu),(128,ZaU),(129,ZdY),(203,ZkT)] [] 63 8) Tryz.f131)
theorem Zgk:Zd prog 131 Zea:=Zb1 (P:=prog) (n:=63) (k:=8) (l:=[(114,Zfu),(128,ZaU),(129,ZdY),(203,ZkT)]) (ol:=[]) ⟨ZhL,Zcn,Zgd,ZvK,Tv⟩ Tryz.func131 rfl (by kernel_rfl) Tryz.call131 trivial
abbrev ZEW:List Sh:=[Sh.one (R.int i64),Sh.agg (R.Pq (R.int i64) (R.Pq (RY) (R.Pq (R.int u8) (R.Pq (R.int u16) (R.Pq R.bool R.bool)))))]
abbrev ZEY:Rs:=Rs.one (Sh.agg (R.Pq (R.int i64) (R.Pq (R.int u16) (R.Pq (R.int u8) (R.Pq R.bool (R.Pq R.bool (R.Pq R.bool (R.Pq R.bool (R.Pq R.bool (R.Pq R.bool (R.Pq R.bool rcF7)))))))))))
def ZEX (chip:Int) (s:Int×TY×Int×Int×Bool×Bool):RT (QT8):=
 let x1:Int:=bif decide (s.1>=1)&&decide (s.1<=7) then s.2.1.2.1 else 0
 let x2:=s.1==2||(s.1==7||s.1==3)
 let x3:=x2&&Zbx s.2.1.1
 let x4:Int:=bif s.1==3&&Za2 s.2.1.1 then s.2.2.1 else bif x3 then s.2.1.2.2.1 else 0
 let x5:=s.1==1&&(s.2.1.1 !=11&&s.2.1.1 !=12)
 .br (chip==2)
 (.Lf ((s.1,x1,bif s.1==1 then u8.wrap s.2.1.2.1 else x4,false,false,false,false,s.1==1,decide (s.1>=1)&&decide (s.1<=7)&&(ZdJ s.2.1.1).1,decide (s.1>=1)&&decide (s.1<=7)&&(ZdJ s.2.1.1).2.1,decide (s.1>=1)&&decide (s.1<=7)&&(ZdJ s.2.1.1).2.2,x2&&(Za2 s.2.1.1&& !(s.2.1.1==8||s.2.1.1==9)),x2&&(s.2.1.1==8||s.2.1.1==9),s.2.2.2.2.2,x3,s.1==8,s.1==8||(s.1==9||s.1==10))))
 (.Lf ((s.1,bif s.1==9 then s.2.2.2.1 else x1,bif x5 then ZhF s.2.1.1 else x4,x5,x2&&Za2 s.2.1.1,s.1==7||s.1==9,s.2.2.2.2.1,false,false,false,false,false,false,false,bif s.1==7 then Zbx s.2.1.1 else s.1==3&&Zbx s.2.1.1,s.1==8,s.1==8)))
def ZH8 (chip:Int) (s:Int×TY×Int×Int×Bool×Bool):QT8:=(ZEX chip s).val
def ZEZ:En:=Zi ZEW ZEY (λ_=>none) (λa=>ZH8 a.1 a.2)
theorem ZH7:Zd prog 66 ZEZ:=
 pureQ 63 [(114,Zfu),(127,Zbu),(128,ZaU),(129,ZdY),(130,Zfa),(131,Zea)] [] ZEW ZEY ⟨ZhL,Zdq,Zcn,Zgd,Zib,Zgk,Tv⟩ Tryz.func66 Tryz.call66 trivial (t:=λa=>ZEX a.1 a.2)
abbrev ZDG:List Sh:=[Sh.one (R.int i64),Sh.one (R.int i64),Sh.agg (RY),Sh.one (R.int u8),Sh.one R.bool,Sh.one R.bool]
abbrev ZDH:Rs:=Rs.one (Sh.agg (R.Pq (R.int i64) (R.Pq (R.int u16) (R.Pq (R.int u8) (R.Pq R.bool (R.Pq R.bool (R.Pq R.bool (R.Pq R.bool (R.Pq R.bool (R.Pq R.bool (R.Pq R.bool rcF7)))))))))))
def ZgN (chip:Int) (t:Int) (x:QT10) (d:Int) (i:Bool) (o:Bool):RT (QT8):=
 let x1:QT17:=(!rOn chip&&bif rOn chip then i else i,false,false,false,false,false,false,bif !rOn chip then rOn chip&&o else rOn chip&&o,false,false,rOn chip)
 let x2:=(t==2||(t==7||t==3))&&Zbx x.1
 let x3:Int:=bif t==3&&Za2 x.1 then d else bif x2 then x.2.2.1 else 0
 .br (t==8)
 (.Lf ((t,0,0,false,false,false,!rOn chip&&bif rOn chip then i else i,false,false,false,false,false,false,bif !rOn chip then rOn chip&&o else rOn chip&&o,false,true,true)))
 (.br (t==9)
  (.Lf ((t,bif !rOn chip then x.2.1 else 0,0,false,false,!rOn chip,x1)))
  (.br (t==10)
  (.Lf ((t,0,0,false,false,false,x1)))
  (.br (rOn chip)
   (.Lf ((t,x.2.1,bif t==1 then u8.wrap x.2.1 else x3,false,false,false,!rOn chip&&bif rOn chip then i else i,t==1,(ZdJ x.1).1,(ZdJ x.1).2.1,(ZdJ x.1).2.2,(t==2||(t==7||t==3))&&(Za2 x.1&& !(x.1==8||x.1==9)),(t==2||(t==7||t==3))&&(x.1==8||x.1==9),bif !rOn chip then rOn chip&&o else rOn chip&&o,x2,false,false)))
   (.Lf ((t,x.2.1,bif t==1&&(x.1 !=11&&x.1 !=12) then ZhF x.1 else x3,t==1&&(x.1 !=11&&x.1 !=12),(t==2||(t==7||t==3))&&Za2 x.1,t==7,!rOn chip&&bif rOn chip then i else i,false,false,false,false,false,false,bif !rOn chip then rOn chip&&o else rOn chip&&o,Zbx x.1&&(t==7||t==3),false,false))))))
def Zaw (chip:Int) (t:Int) (x:QT10) (d:Int) (i:Bool) (o:Bool):QT8:=(ZgN chip t x d i o).val
def ZJi:En:=Zi ZDG ZDH (λ_=>none) (λa=>Zaw a.1 a.2.1 a.2.2.1 a.2.2.2.1 a.2.2.2.2.1 a.2.2.2.2.2)
theorem ZHE:Zd prog 83 ZJi:=
 pureQ 302250189878107155464191 [(100,ZnZ),(103,ZjU),(146,rOnE),(147,Zx6),(148,Zxx)] [] ZDG ZDH ⟨Zmx,ZgK,Zde,ZAl,Zz0,Tv⟩ Tryz.func83 Tryz.call83 trivial (t:=λa=>ZgN a.1 a.2.1 a.2.2.1 a.2.2.2.1 a.2.2.2.2.1 a.2.2.2.2.2)
abbrev ZED:List Sh:=[Sh.agg (R.Pq ZW (R.Pq (R.int i64) (R.Pq (R.sl (R.int u8)) (R.Pq (RY) (R.Pq (R.int i64) R.bool)))))]
abbrev ZEF:Rs:=Rs.one (Sh.one R.bool)
def ZEE (c:QT4):RT (Bool):=
 let x1:=decide (iN (List.length c.2.2.1)>0)||c.2.1 !=0
 .Lf (bif decide (c.2.2.2.2.1>=2) then decide (c.2.2.2.2.1<=7)||x1 else x1)
def Zdu (c:QT4):Bool:=(ZEE c).val
def ZrD:En:=Zi ZED ZEF (λ_=>none) (λa=>Zdu a)
theorem Zpg:Zd prog 30 ZrD:=
 pureQ 7 [] [] ZED ZEF trivial Tryz.func30 Tryz.call30 trivial (t:=λa=>ZEE a)
abbrev ZJU:List Sh:=[Sh.one (R.int i64)]
abbrev ZJV:Rs:=Rs.one (Sh.one R.bool)
def ZLr (k:Int):RT (Bool):=
 .Lf (Zm k)
def pAcc (k:Int):Bool:=(ZLr k).val
def ZMV:En:=Zi ZJU ZJV (λ_=>none) (λa=>pAcc a)
theorem ZLq:Zd prog 132 ZMV:=
 pureQ 7 [(140,ZmW)] [] ZJU ZJV ⟨Zso,Tv⟩ Tryz.func132 Tryz.call132 trivial (t:=λa=>ZLr a)
theorem ZLi (chip t:Int) (h1:1<=t) (h2:t<=10) (x:QT10) (d d' pc:Int) (i o:Bool) (hd:t≠10->d'=d):
  ZH8 chip (t,x,d,pc,i,o)=Zaw chip t (bif t==9 then (0,pc,0,0) else x) d' i o:=by
 obtain⟨x1,x2,x3,x4⟩:=x;simp only[ZH8,ZEX,Zaw,ZgN,RT.val,Zcd];generalize (chip==2)=b;have:t=1\/t=2\/t=3\/t=4\/t=5\/t=6\/t=7\/t=8\/t=9\/t=10:=by omega
 by_cases h:t=10
 ·subst h;cases b<;>simp
 ·rw[hd h];rcases this with rfl|rfl|rfl|rfl|rfl|rfl|rfl|rfl|rfl|rfl<;>cases b<;>simp<;>(try cases Zbx x1)<;>(try cases Za2 x1)<;>simp
end
end Go.Proofs.YtghoimllhpjkjaaGreat
