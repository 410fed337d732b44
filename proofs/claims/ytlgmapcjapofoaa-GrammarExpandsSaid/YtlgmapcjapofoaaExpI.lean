import Derived.Test.YtlgmapcjapofoaaS3D
import Derived.Test.YtlgmapcjapofoaaProg
import Derived.Test.YtlgmapcjapofoaaS3Box1
import Derived.RangeFuncNested
import Derived.RangeFuncLeaves
import Derived.Shelf.Abstract
import Derived.WalkKit
import Derived.OwnWalkIn
import Derived.TacticsInMore
import Derived.LoopNIn
import Derived.LoopIn
import Derived.Stop.RegionWithIn
open Go.IntKind (u8 u16 i64)
set_option linter.unusedSimpArgs false
open Go Go.S3 Go.Proofs
set_option linter.unusedVariables false
set_option maxRecDepth 100000
namespace Go.Proofs.Ytlgmapcjapofoaa
noncomputable section
abbrev Zoh:List Sh:=[Sh.one (R.int i64)]
abbrev Zoi:Rs:=Rs.one (Sh.one R.bool)
def rOnT (k:Int):RT (Bool):=
 .leaf (k==2)
def rOn (k:Int):Bool:=(rOnT k).val
def rOnE:Entry:=ZM Zoh Zoi (λ_=>none) (λa=>rOn a)
theorem Zog:Za Try.prog 37 rOnE:=
 pureQ 7 [] [] Zoh Zoi trivial Try.func37 Try.call37 trivial (t:=λa=>rOnT a)
abbrev Zjc:List Sh:=[Sh.one (R.int i64)]
abbrev Zjd:Rs:=Rs.one (Sh.one R.bool)
def Zif (k:Int):RT (Bool):=
 .leaf (k==1||(k==2||(k==4||(k==6||(k==8||k==9)))))
def ZbN (k:Int):Bool:=(Zif k).val
def ZkR:Entry:=ZM Zjc Zjd (λ_=>none) (λa=>ZbN a)
theorem ZkQ:Za Try.prog 18 ZkR:=
 pureQ 7 [] [] Zjc Zjd trivial Try.func18 Try.call18 trivial (t:=λa=>Zif a)
abbrev Zgf:List Sh:=[Sh.one (R.int i64)]
abbrev Zgg:Rs:=Rs.one (Sh.one R.bool)
def Zik (k:Int):RT (Bool):=
 .br (bif k==1 then k==1 else bif k==2 then k==2 else bif k==4 then k==4 else bif k==6 then k==6 else bif k==8 then k==8 else k==9)
 (.leaf (true))
 (.leaf (false))
def ZkY (k:Int):Bool:=(Zik k).val
def ZnF:Entry:=ZM Zgf Zgg (λ_=>none) (λa=>ZkY a)
theorem ZkX:Za Try.prog 34 ZnF:=
 pureQ 23 [] [] Zgf Zgg trivial Try.func34 Try.call34 trivial (t:=λa=>Zik a)
abbrev Zg1:List Sh:=[Sh.one (R.int i64)]
abbrev Zg2:Rs:=Rs.one (Sh.one R.bool)
def Zf4 (k:Int):RT (Bool):=
 .leaf (k==3||(k==5||k==7))
def Za9 (k:Int):Bool:=(Zf4 k).val
def Zja:Entry:=ZM Zg1 Zg2 (λ_=>none) (λa=>Za9 a)
theorem ZjS:Za Try.prog 19 Zja:=
 pureQ 7 [] [] Zg1 Zg2 trivial Try.func19 Try.call19 trivial (t:=λa=>Zf4 a)
abbrev Zei:List Sh:=[Sh.one (R.int i64)]
abbrev Zej:Rs:=Rs.one (Sh.one R.bool)
def Zgd (k:Int):RT (Bool):=
 .leaf (k==3||(k==5||k==7))
def Zih (k:Int):Bool:=(Zgd k).val
def ZmB:Entry:=ZM Zei Zej (λ_=>none) (λa=>Zih a)
theorem ZjY:Za Try.prog 33 ZmB:=
 pureQ 7 [] [] Zei Zej trivial Try.func33 Try.call33 trivial (t:=λa=>Zgd a)
abbrev Zek:List Sh:=[Sh.one (R.int i64)]
abbrev Zel:Rs:=Rs.one (Sh.one (R.int u8))
def Zge (k:Int):RT (Int):=
 .br (k==1)
 (.leaf (162))
 (.br (k==2)
  (.leaf (130))
  (.br (k==4)
  (.leaf (134))
  (.br (k==5)
   (.leaf (4))
   (.br (k==6)
   (.leaf (66))
   (.br (k==7)
    (.leaf (16))
    (.br (k==8)
    (.leaf (35))
    (.br (k==9)
     (.leaf (3))
     (.br (k==10)
     (.leaf (138))
     (.leaf (0))))))))))
def Zij (k:Int):Int:=(Zge k).val
def ZmC:Entry:=ZM Zek Zel (λ_=>none) (λa=>Zij a)
theorem ZjZ:Za Try.prog 42 ZmC:=
 pureQ 1398103 [] [] Zek Zel trivial Try.func42 Try.call42 trivial (t:=λa=>Zge a)
abbrev Zg3:List Sh:=[Sh.one (R.int i64)]
abbrev Zg4:Rs:=Rs.one (Sh.one (R.int u8))
def Zf5 (k:Int):RT (Int):=
 .br (k==1)
 (.leaf (162))
 (.br (k==2)
  (.leaf (130))
  (.br (k==4)
  (.leaf (134))
  (.br (k==5)
   (.leaf (4))
   (.br (k==6)
   (.leaf (66))
   (.br (k==7)
    (.leaf (16))
    (.br (k==8)
    (.leaf (35))
    (.br (k==9)
     (.leaf (3))
     (.br (k==10)
     (.leaf (138))
     (.leaf (0))))))))))
def Zdf (k:Int):Int:=(Zf5 k).val
def Zjb:Entry:=ZM Zg3 Zg4 (λ_=>none) (λa=>Zdf a)
theorem ZjT:Za Try.prog 39 Zjb:=
 pureQ 1398103 [] [] Zg3 Zg4 trivial Try.func39 Try.call39 trivial (t:=λa=>Zf5 a)
abbrev Zen:List Sh:=[Sh.one (R.int i64)]
abbrev Zeo:Rs:=Rs.tup [Sh.one R.bool,Sh.one R.bool,Sh.one R.bool]
def Zgh (k:Int):RT (QT8):=
 .br (k==1)
 (.leaf ((false,true,true)))
 (.br (bif k==2 then k==2 else bif k==4 then k==4 else k==11)
  (.leaf ((false,true,false)))
  (.br (bif k==3 then k==3 else k==5)
  (.leaf ((false,false,true)))
  (.br (k==6)
   (.leaf ((true,true,false)))
   (.br (k==7)
   (.leaf ((true,false,true)))
   (.br (bif k==8 then k==8 else bif k==9 then k==9 else k==12)
    (.leaf ((true,true,true)))
    (.leaf ((false,false,false))))))))
def Zim (k:Int):QT8:=(Zgh k).val
def ZmE:Entry:=ZM Zen Zeo (λ_=>none) (λa=>Zim a)
theorem Zj0:Za Try.prog 41 ZmE:=
 pureQ 692575 [] [] Zen Zeo trivial Try.func41 Try.call41 trivial (t:=λa=>Zgh a)
abbrev Zg7:List Sh:=[Sh.one (R.int i64)]
abbrev Zg8:Rs:=Rs.tup [Sh.one R.bool,Sh.one R.bool,Sh.one R.bool]
def Zf7 (k:Int):RT (QT8):=
 .br (k==1)
 (.leaf ((false,true,true)))
 (.br (bif k==2 then k==2 else bif k==4 then k==4 else k==11)
  (.leaf ((false,true,false)))
  (.br (bif k==3 then k==3 else k==5)
  (.leaf ((false,false,true)))
  (.br (k==6)
   (.leaf ((true,true,false)))
   (.br (k==7)
   (.leaf ((true,false,true)))
   (.br (bif k==8 then k==8 else bif k==9 then k==9 else k==12)
    (.leaf ((true,true,true)))
    (.leaf ((false,false,false))))))))
def Zba (k:Int):QT8:=(Zf7 k).val
def Zje:Entry:=ZM Zg7 Zg8 (λ_=>none) (λa=>Zba a)
theorem ZjU:Za Try.prog 38 Zje:=
 pureQ 692575 [] [] Zg7 Zg8 trivial Try.func38 Try.call38 trivial (t:=λa=>Zf7 a)
abbrev Zft:List Sh:=[Sh.one (R.int i64)]
abbrev Zfu:Rs:=Rs.one (Sh.one R.bool)
def Zha (k:Int):RT (Bool):=
 .leaf (k !=10&&(k !=11&&k !=12))
def Zji (k:Int):Bool:=(Zha k).val
def Zeq:Entry:=ZM Zft Zfu (λ_=>none) (λa=>Zji a)
theorem Zin:Za Try.prog 43 Zeq:=
 pureQ 7 [] [] Zft Zfu trivial Try.func43 Try.call43 trivial (t:=λa=>Zha a)
theorem Zmw (k):ZkY k=ZbN k:=by simp[ZkY,Zik,ZbN,Zif,RT.val]
theorem Zku (k):Zih k=Za9 k:=by simp[Zih,Zgd,Za9,Zf4,RT.val]
theorem ZkD (k):Zij k=Zdf k:=by simp[Zij,Zge,Zdf,Zf5,RT.val]
theorem Zlj (k):Zim k=Zba k:=by simp[Zim,Zgh,Zba,Zf7,RT.val]
def Zb7:Entry:=ZM Zgf Zgg (λ_=>none) (λa=>ZbN a)
theorem Zdh:Za Try.prog 34 Zb7:=ZkX.tot (λa h=>by simp) (λa h=>Zmw _)
def Zbk:Entry:=ZM Zei Zej (λ_=>none) (λa=>Za9 a)
theorem Zcy:Za Try.prog 33 Zbk:=ZjY.tot (λa h=>by simp) (λa h=>Zku _)
def Zem:Entry:=ZM Zek Zel (λ_=>none) (λa=>Zdf a)
theorem Zii:Za Try.prog 42 Zem:=ZjZ.tot (λa h=>by simp) (λa h=>ZkD _)
def Zep:Entry:=ZM Zen Zeo (λ_=>none) (λa=>Zba a)
theorem Zil:Za Try.prog 41 Zep:=Zj0.tot (λa h=>by simp) (λa h=>Zlj _)
def Z0:Entry:=.tree (Za1 (envX Try.prog [] [] 7 8) Try.f31)
theorem Za0:Za Try.prog 31 Z0:=ZfF (P:=Try.prog) (n:=7) (k:=8) (l:=[]) (ol:=[]) trivial Try.func31 rfl (by kernel_rfl) Try.call31 trivial
def ZL:Entry:=.tree (Za1 (envX Try.prog [] [] 7 8) Try.f32)
theorem Zap:Za Try.prog 32 ZL:=ZfF (P:=Try.prog) (n:=7) (k:=8) (l:=[]) (ol:=[]) trivial Try.func32 rfl (by kernel_rfl) Try.call32 trivial
def ZbR:Entry:=.tree (Za1 (envX Try.prog [(31,Z0),(32,ZL),(33,Zbk),(34,Zb7),(41,Zep)] [] 63 8) Try.f35)
theorem Zdm:Za Try.prog 35 ZbR:=ZfF (P:=Try.prog) (n:=63) (k:=8) (l:=[(31,Z0),(32,ZL),(33,Zbk),(34,Zb7),(41,Zep)]) (ol:=[]) ⟨Za0,Zap,Zcy,Zdh,Zil,Tv⟩ Try.func35 rfl (by kernel_rfl) Try.call35 trivial
def Zbp:Entry:=.tree (Za1 (envX Try.prog [(32,ZL),(33,Zbk),(34,Zb7),(42,Zem)] [] 63 8) Try.f36)
theorem ZcB:Za Try.prog 36 Zbp:=ZfF (P:=Try.prog) (n:=63) (k:=8) (l:=[(32,ZL),(33,Zbk),(34,Zb7),(42,Zem)]) (ol:=[]) ⟨Zap,Zcy,Zdh,Zii,Tv⟩ Try.func36 rfl (by kernel_rfl) Try.call36 trivial
abbrev ZkZ:List Sh:=[Sh.one (R.int i64),Sh.agg (R.pair (R.int i64) (R.pair (RY) (R.pair (R.int u8) (R.pair (R.int u16) (R.pair R.bool R.bool)))))]
abbrev Zk1:Rs:=Rs.one (Sh.agg ZaR)
def Zk0 (chip:Int) (s:ITMT):RT PINT:=
 let x1:Int:=bif decide (s.1>=1)&&decide (s.1<=7) then s.2.1.2.1 else 0
 let x2:=s.1==2||(s.1==7||s.1==3)
 let x3:=x2&&Za9 s.2.1.1
 let x4:Int:=bif s.1==3&&ZbN s.2.1.1 then s.2.2.1 else bif x3 then s.2.1.2.2.1 else 0
 let x5:=s.1==1&&(s.2.1.1 !=11&&s.2.1.1 !=12)
 .br (chip==2) (.leaf ((s.1,x1,bif s.1==1 then u8.wrap s.2.1.2.1 else x4,false,false,false,false,s.1==1,decide (s.1>=1)&&decide (s.1<=7)&&(Zba s.2.1.1).1,decide (s.1>=1)&&decide (s.1<=7)&&(Zba s.2.1.1).2.1,decide (s.1>=1)&&decide (s.1<=7)&&(Zba s.2.1.1).2.2,x2&&(ZbN s.2.1.1&& !(s.2.1.1==8||s.2.1.1==9)),x2&&(s.2.1.1==8||s.2.1.1==9),s.2.2.2.2.2,x3,s.1==8,s.1==8||(s.1==9||s.1==10)))) (.leaf ((s.1,bif s.1==9 then s.2.2.2.1 else x1,bif x5 then Zdf s.2.1.1 else x4,x5,x2&&ZbN s.2.1.1,s.1==7||s.1==9,s.2.2.2.2.1,false,false,false,false,false,false,false,bif s.1==7 then Za9 s.2.1.1 else s.1==3&&Za9 s.2.1.1,s.1==8,s.1==8)))
def ZnG (chip:Int) (s:ITMT):PINT:=(Zk0 chip s).val
def Zk2:Entry:=ZM ZkZ Zk1 (λ_=>none) (λa=>ZnG a.1 a.2)
theorem ZmD:Za Try.prog 24 Zk2:=
 pureQ 63 [(31,Z0),(32,ZL),(33,Zbk),(34,Zb7),(35,ZbR),(36,Zbp)] [] ZkZ Zk1 ⟨Za0,Zap,Zcy,Zdh,Zdm,ZcB,Tv⟩ Try.func24 Try.call24 trivial (t:=λa=>Zk0 a.1 a.2)
abbrev ZkS:List Sh:=[Sh.one (R.int i64),Sh.one (R.int i64),Sh.agg (RY),Sh.one (R.int u8),Sh.one R.bool,Sh.one R.bool]
abbrev ZkU:Rs:=Rs.one (Sh.agg ZaR)
def ZkT (chip:Int) (t:Int) (x:Int×Int×Int×Int) (d:Int) (i:Bool) (o:Bool):RT PINT:=
 let x1:Bool×Bool×LINT:=(!rOn chip&&bif rOn chip then i else i,false,false,false,false,false,false,bif !rOn chip then rOn chip&&o else rOn chip&&o,false,false,rOn chip)
 let x2:=(t==2||(t==7||t==3))&&Za9 x.1
 let x3:Int:=bif t==3&&ZbN x.1 then d else bif x2 then x.2.2.1 else 0
 .br (t==8) (.leaf ((t,0,0,false,false,false,!rOn chip&&bif rOn chip then i else i,false,false,false,false,false,false,bif !rOn chip then rOn chip&&o else rOn chip&&o,false,true,true))) (.br (t==9) (.leaf ((t,bif !rOn chip then x.2.1 else 0,0,false,false,!rOn chip,x1))) (.br (t==10) (.leaf ((t,0,0,false,false,false,x1))) (.br (rOn chip) (.leaf ((t,x.2.1,bif t==1 then u8.wrap x.2.1 else x3,false,false,false,!rOn chip&&bif rOn chip then i else i,t==1,(Zba x.1).1,(Zba x.1).2.1,(Zba x.1).2.2,(t==2||(t==7||t==3))&&(ZbN x.1&& !(x.1==8||x.1==9)),(t==2||(t==7||t==3))&&(x.1==8||x.1==9),bif !rOn chip then rOn chip&&o else rOn chip&&o,x2,false,false))) (.leaf ((t,x.2.1,bif t==1&&(x.1 !=11&&x.1 !=12) then Zdf x.1 else x3,t==1&&(x.1 !=11&&x.1 !=12),(t==2||(t==7||t==3))&&ZbN x.1,t==7,!rOn chip&&bif rOn chip then i else i,false,false,false,false,false,false,bif !rOn chip then rOn chip&&o else rOn chip&&o,Za9 x.1&&(t==7||t==3),false,false))))))
def Zmx (chip:Int) (t:Int) (x:Int×Int×Int×Int) (d:Int) (i:Bool) (o:Bool):PINT:=(ZkT chip t x d i o).val
def Zg6:Entry:=ZM ZkS ZkU (λ_=>none) (λa=>Zmx a.1 a.2.1 a.2.2.1 a.2.2.2.1 a.2.2.2.2.1 a.2.2.2.2.2)
theorem Zf6:Za Try.prog 26 Zg6:=
 pureQ 302250189878107155464191 [(18,ZkR),(19,Zja),(37,rOnE),(38,Zje),(39,Zjb)] [] ZkS ZkU ⟨ZkQ,ZjS,Zog,ZjU,ZjT,Tv⟩ Try.func26 Try.call26 trivial (t:=λa=>ZkT a.1 a.2.1 a.2.2.1 a.2.2.2.1 a.2.2.2.2.1 a.2.2.2.2.2)
abbrev Zno:List Sh:=[Sh.one (R.int i64),Sh.one (R.int i64),Sh.one (R.int i64)]
abbrev Znp:Rs:=Rs.one (Sh.one (R.int i64))
def Zfd (n:Int) (low:Int) (high:Int):RT (Int):=
 .leaf (if (if high<n then high else n)>low then if high<n then high else n else low)
def gLim (n:Int) (low:Int) (high:Int):Int:=(Zfd n low high).val
def Zov:Entry:=ZM Zno Znp (λ_=>none) (λa=>gLim a.1 a.2.1 a.2.2)
theorem ZnY:Za Try.prog 30 Zov:=
 pureQ 127 [] [] Zno Znp trivial Try.func30 Try.call30 trivial (t:=λa=>Zfd a.1 a.2.1 a.2.2)
abbrev Znm:List Sh:=[Sh.agg ZB]
abbrev Znn:Rs:=Rs.tup [Sh.one (R.int i64),Sh.one (R.int i64)]
def ZeQ (x:ITMT):RT (Int×Int):=
 .br (x.1==2) (.leaf ((8,gLim x.2.2.2.1 0 65536))) (.br (x.1==3) (.leaf ((9,gLim x.2.2.2.1 0 65536))) (.br (x.1==4) (.leaf ((10,gLim x.2.2.2.1 0 65536))) (.leaf ((0,0)))))
def gRep (x:ITMT):Int×Int:=(ZeQ x).val
def ZnX:Entry:=ZM Znm Znn (λ_=>none) (λa=>gRep a)
theorem ZlL:Za Try.prog 28 ZnX:=
 pureQ 1359 [(30,Zov)] [] Znm Znn ⟨ZnY,Tv⟩ Try.func28 Try.call28 trivial (t:=λa=>ZeQ a)
def ZbS:Entry:=.tree (Za1 (envX Try.prog [(43,Zeq)] [] 7 8) Try.f40)
theorem Zdn:Za Try.prog 40 ZbS:=ZfF (P:=Try.prog) (n:=7) (k:=8) (l:=[(43,Zeq)]) (ol:=[]) ⟨Zin,Tv⟩ Try.func40 rfl (by kernel_rfl) Try.call40 trivial
abbrev ZlM:List Sh:=[Sh.agg ZB,Sh.one R.bool]
abbrev ZlN:Rs:=Rs.one (Sh.one R.bool)
def Znq (x:ITMT) (f:Bool):RT (Bool):=
 let p1:=(decide (x.2.2.2.1>x.2.1.2.2.2))::(decide (x.2.2.2.1<1))::(decide (x.2.1.2.2.2>6))::(decide (x.2.1.2.2.2<3))::[]
 .br (orR p1 (!f&&x.2.2.2.1 !=x.2.1.2.2.2)) (.leaf (false)) (.br (decide (x.2.2.1<0)||decide (x.2.2.2.1<2)&&x.2.2.1 !=0) (.leaf (false)) (.leaf (x.2.2.1==0||Zji x.2.1.1)))
def Zow (x:ITMT) (f:Bool):Bool:=(Znq x f).val
def ZlO:Entry:=ZM ZlM ZlN (λ_=>none) (λa=>Zow a.1 a.2)
theorem ZjD:Za Try.prog 27 ZlO:=
 pureQ 137438954047 [(40,ZbS)] [] ZlM ZlN ⟨Zdn,Tv⟩ Try.func27 Try.call27 trivial (t:=λa=>Znq a.1 a.2)
abbrev Znl:List Sh:=[Sh.agg ZB]
abbrev ZlE:Rs:=Rs.one (Sh.one (R.sl (R.int i64)))
def ZnW:LS:={n:=66,slots:=[(1,.fix (A.loc 0 0)),(3,.tip 0),(5,.code (Sh.one (R.int i64))),(6,.code (Sh.one (R.int i64))),(7,.code (Sh.one (R.int i64)))],boxes:=[[.many ZB]],stgs:=[⟨R.int i64,3,true⟩]}
def Zdp (a:QT2):RT (Option (Go1 (QT2))):=
 .br (a.2.1==2&&decide (a.2.2.1<if 65536<a.2.2.2.1.2.2.1 then 65536 else a.2.2.2.1.2.2.1)) (.br (Nat.ble (List.length (a.2.2.2.2.1++[7])) most) (.leaf (some (Go1.cont (a.1,a.2.1,i64.wrap (a.2.2.1+1),a.2.2.2.1,a.2.2.2.2.1++[7],PUnit.unit)))) (.leaf none)) (.leaf (some (Go1.brk (a.1,a.2.1,a.2.2.1,a.2.2.2.1,a.2.2.2.2.1,PUnit.unit))))
def ZgB:Ora:=ZcU false ZnW Zdp (λa=>1000000000000)
theorem ZhG:ZbE (envX Try.prog [] [] 70368744180223 8) (.block 3 (.loop (Zaj Try.f25.body 3))) ZgB:=
 loopP trivial
def ZnV:LS:={n:=66,slots:=[(1,.fix (A.loc 0 0)),(3,.tip 0),(5,.code (Sh.one (R.int i64))),(6,.code (Sh.one (R.int i64)))],boxes:=[[.many ZB]],stgs:=[⟨(R.int i64),3,true⟩]}
def Zdo (a:QT5):RT (Option (Go1 (QT5))):=
 let x1:=Nat.ble (List.length (a.2.2.2.1++[a.2.1])) most
 let x2:QT2:=(a.1,a.2.1,0,a.2.2.1,a.2.2.2.1++[a.2.1],())
 let x3:=runF false Zdp (λa_1=>1000000000000) x2
 let x4:QT2:=(getO (false,x2) x3).2
 let x5:=x4.2
 let x6:=x5.2.2
 .br (decide (a.2.1<=a.1)) (.br (!x1||okB x3) (.br (x1) (.leaf (some (Go1.cont (x4.1,i64.wrap (x5.1+1),x6.1,x6.2.1,PUnit.unit)))) (.leaf none)) (.leaf none)) (.leaf (some (Go1.brk (a.1,a.2.1,a.2.2.1,a.2.2.2.1,PUnit.unit))))
def ZlI:Ora:=ZcU false ZnV Zdo (λa=>1000000000000)
theorem ZlH:ZbE (envX Try.prog [] [(3,ZgB)] 70368744180223 8) (.block 1 (.loop (Zaj Try.f25.body 1))) ZlI:=
 ZcT (Zbb (l:=[]) trivial [(3,ZgB)] 70368744180223 8) (ZcA (by kernel_rfl) (by kernel_rfl) ⟨ZhG,Tv⟩) (λa=>by kernel_rfl)
def ZnU:LS:={n:=66,slots:=[(1,.fix (A.loc 0 0)),(3,.tip 0),(8,.code (Sh.one (R.int i64)))],boxes:=[[.many ZB]],stgs:=[⟨(R.int i64),3,true⟩]}
def ZcC (a:Int×ITMT×List Int×PUnit):RT (Option (Go1 (Int×ITMT×List Int×PUnit))):=
 let x1:=decide (0<=i64.wrap (a.2.1.1-2)/\i64.wrap (a.2.1.1-2)<3)
 let x2:List Int:=a.2.2.1++[bif i64.wrap (a.2.1.1-2)==0 then 8 else bif i64.wrap (a.2.1.1-2)==iN (0+1) then 9 else 10]
 let x3:= !x1||Nat.ble (List.length x2) most
 .br (decide (a.1<if 65536<a.2.1.2.2.2.1 then 65536 else a.2.1.2.2.2.1)) (.br (!x3||x1) (.br (x3) (.leaf (some (Go1.cont (i64.wrap (a.1+1),a.2.1,x2,PUnit.unit)))) (.leaf none)) (.leaf none)) (.leaf (some (Go1.brk (a.1,a.2.1,a.2.2.1,PUnit.unit))))
def ZlG:Ora:=ZcU false ZnU ZcC (λa=>1000000000000)
theorem ZlF:ZbE (envX Try.prog [] [] 70368744180223 8) (.block 5 (.loop (Zaj Try.f25.body 5))) ZlG:=
 loopP trivial
def ZiS (x:ITMT):RT (Option (List Int)):=
 let x1:Int:=if 6<x.2.1.2.2.2 then 6 else x.2.1.2.2.2
 let x2:Int:=if x1>3 then x1 else 3
 let x3:Int:=if x2<x.2.2.2.1 then x2 else x.2.2.2.1
 let x4:QT5:=(if x3>1 then x3 else 1,1,x,[],())
 let x5:=runF false Zdo (λa=>1000000000000) x4
 let x6:= !x.1==1||okB x5
 let x7:=bif x.1==2 then x.1==2 else bif x.1==3 then x.1==3 else x.1==4
 .br (!x6||(x.1==1||(!x7||okB (runF false ZcC (λa=>1000000000000) (0,x,[],()))))) (.br (x6) (.br (x.1==1) (.leaf (some (getO (false,x4) x5).2.2.2.2.1)) (.br (x7) (.leaf (some (getO (false,0,x,[],()) (runF false ZcC (λa=>1000000000000) (0,x,[],()))).2.2.2.1)) (.leaf (some ([]))))) (.leaf none)) (.leaf none)
def gSts (x:ITMT):List Int:=getO ZlE.dflt (ZiS x).val
def ZmW (x:ITMT):Bool:=okB (ZiS x).val
def ZlJ:Entry:=ZM Znl ZlE (λa=>some (ZmW a)) (λa=>gSts a)
theorem ZiR:Za Try.prog 25 ZlJ:=
 pureP 70368744180223 [] [(3,ZgB),(1,ZlI),(5,ZlG)] Znl ZlE trivial Try.func25 Try.call25 ⟨ZhG,ZlH,ZlF,Tv⟩ (t:=λa=>ZiS a)
abbrev ZlP:List Sh:=[Sh.one (R.int i64),Sh.one (R.sl ZB)]
abbrev ZiT:Rs:=Rs.one (Sh.one (R.sl ZaR))
def ZmY:LS:={n:=41,slots:=[(0,.code (Sh.one (R.int i64))),(5,.tip 0),(7,.fix (A.loc 0 0)),(10,.code (Sh.one (R.sl ZB))),(11,.code (Sh.one (R.int i64))),(12,.code (Sh.one (R.int i64))),(17,.code (Sh.one (R.sl (R.int i64)))),(18,.code (Sh.one (R.int i64))),(19,.code (Sh.one (R.int i64)))],boxes:=[[.many ZB]],stgs:=[⟨ZaR,46,true⟩]}
def Zcb (a:QT0):RT (Option (Go1 (QT0))):=
 let x1:=ZS a.2.2.2.2.2.2.1 (List.length a.2.2.2.2.1)
 let x2:List PINT:=a.2.2.2.2.2.2.2.2.1++[Zmx a.1 (R.get (R.int i64) a.2.2.2.2.1 a.2.2.2.2.2.2.1) a.2.2.2.2.2.2.2.1.2.1 a.2.2.2.2.2.2.2.1.2.1.2.2.1 a.2.2.2.2.2.2.2.1.2.2.2.2.1 a.2.2.2.2.2.2.2.1.2.2.2.2.2]
 .br (decide (a.2.2.2.2.2.2.1<a.2.2.2.2.2.1)) (.br (!x1||Nat.ble (List.length x2) most) (.br (x1) (.leaf (some (Go1.cont (a.1,a.2.1,a.2.2.1,a.2.2.2.1,a.2.2.2.2.1,a.2.2.2.2.2.1,i64.wrap (a.2.2.2.2.2.2.1+1),a.2.2.2.2.2.2.2.1,x2,PUnit.unit)))) (.leaf none)) (.leaf none)) (.leaf (some (Go1.brk (a.1,a.2.1,a.2.2.1,a.2.2.2.1,a.2.2.2.2.1,a.2.2.2.2.2.1,a.2.2.2.2.2.2.1,a.2.2.2.2.2.2.2.1,a.2.2.2.2.2.2.2.2.1,PUnit.unit))))
def Zd4:Ora:=ZcU false ZmY Zcb (λa=>1000000000000)
theorem ZfJ:ZbE (envX Try.prog [(25,ZlJ),(26,Zg6)] [] 1023 8) (.block 2 (.loop (Zaj Try.f12.body 2))) Zd4:=
 loopP ⟨ZiR,Zf6,Tv⟩
def ZmX:LS:={n:=41,slots:=[(0,.code (Sh.one (R.int i64))),(5,.tip 0),(10,.code (Sh.one (R.sl ZB))),(11,.code (Sh.one (R.int i64))),(12,.code (Sh.one (R.int i64)))],boxes:=[],stgs:=[⟨ZaR,46,true⟩]}
def ZcY (a:QT7):RT (Option (Go1 (QT7))):=
 let x1:ITMT:=R.get ZB a.2.1 a.2.2.2.1
 let x2:=ZmW x1
 let x3:=gSts x1
 let x4:QT0:=(a.1,a.2.1,a.2.2.1,a.2.2.2.1,x3,iN (List.length x3),0,x1,a.2.2.2.2.1,())
 let x5:=runF false Zcb (λa_1=>1000000000000) x4
 let x6:QT0:=(getO (false,x4) x5).2
 let x7:=x6.2
 let x8:=x7.2
 let x9:=x8.2
 .br (decide (a.2.2.2.1<a.2.2.1)) (.br (!ZS a.2.2.2.1 (List.length a.2.1)||(!x2||okB x5)) (.br (!ZS a.2.2.2.1 (List.length a.2.1)||x2) (.br (ZS a.2.2.2.1 (List.length a.2.1)) (.leaf (some (Go1.cont (x6.1,x7.1,x8.1,i64.wrap (x9.1+1),x9.2.2.2.2.2.1,PUnit.unit)))) (.leaf none)) (.leaf none)) (.leaf none)) (.leaf (some (Go1.brk (a.1,a.2.1,a.2.2.1,a.2.2.2.1,a.2.2.2.2.1,PUnit.unit))))
def ZjE:Ora:=ZcU false ZmX ZcY (λa=>1000000000000)
theorem Zkf:ZbE (envX Try.prog [(25,ZlJ),(26,Zg6)] [(2,Zd4)] 1023 8) (.block 0 (.loop (Zaj Try.f12.body 0))) ZjE:=
 ZcT (Zbb (l:=[(25,ZlJ),(26,Zg6)]) ⟨ZiR,Zf6,Tv⟩ [(2,Zd4)] 1023 8) (ZcA (by kernel_rfl) (by kernel_rfl) ⟨ZfJ,Tv⟩) (λa=>by kernel_rfl)
def ZhJ (k:Int) (l:List ITMT):RT (Option (List PINT)):=
 let x1:=runF false ZcY (λa=>1000000000000) (k,l,iN (List.length l),0,[],())
 .br (okB x1) (.leaf (some (getO (false,k,l,iN (List.length l),0,[],()) x1).2.2.2.2.2.1)) (.leaf none)
def ZlQ (k:Int) (l:List ITMT):List PINT:=getO ZiT.dflt (ZhJ k l).val
def ZhL (k:Int) (l:List ITMT):Bool:=okB (ZhJ k l).val
def ZhK:Entry:=ZM ZlP ZiT (λa=>some (ZhL a.1 a.2)) (λa=>ZlQ a.1 a.2)
theorem ZgE:Za Try.prog 12 ZhK:=
 pureP 1023 [(25,ZlJ),(26,Zg6)] [(2,Zd4),(0,ZjE)] ZlP ZiT ⟨ZiR,Zf6,Tv⟩ Try.func12 Try.call12 ⟨ZfJ,Zkf,Tv⟩ (t:=λa=>ZhJ a.1 a.2)
abbrev Zeg:List Sh:=[Sh.one (R.sl ZaR),Sh.one (R.sl ZaR)]
abbrev Zcw:Rs:=Rs.one (Sh.one R.bool)
def Zg5:LS:={n:=26,slots:=[(0,.code (Sh.one (R.sl ZaR))),(1,.code (Sh.one (R.sl ZaR))),(4,.code (Sh.one R.bool)),(12,.code (Sh.one (R.int i64))),(13,.code (Sh.one (R.int i64)))],boxes:=[],stgs:=[]}
def Zab (a:List PINT×List PINT×Bool×Int×Int×PUnit):RT (Option (Go1 (List PINT×List PINT×Bool×Int×Int×PUnit))):=
 let x1:= !ZS a.2.2.2.2.1 (List.length a.1)||ZS a.2.2.2.2.1 (List.length a.2.1)
 let x2:PINT:=R.get ZaR a.1 a.2.2.2.2.1
 let x3:PINT:=R.get ZaR a.2.1 a.2.2.2.2.1
 let x34:Int×Int×PUnit:=(a.2.2.2.1,a.2.2.2.2.1,PUnit.unit)
 .br (decide (a.2.2.2.2.1<a.2.2.2.1)) (.br (!x1||ZS a.2.2.2.2.1 (List.length a.1)) (.br (x1) (.br (!(R.eqf ZaR x2 x3 true)) (.leaf (some (Go1.ret (a.1,a.2.1,false,x34)))) (.leaf (some (Go1.cont (a.1,a.2.1,a.2.2.1,a.2.2.2.1,i64.wrap (a.2.2.2.2.1+1),PUnit.unit))))) (.leaf none)) (.leaf none)) (.leaf (some (Go1.brk (a.1,a.2.1,a.2.2.1,x34))))
def ZdG:Ora:=ZcU true Zg5 Zab (λa=>1000000000000)
theorem Ze9:ZbE (envX Try.prog [] [] 63 8) (.block 0 (.loop (Zaj Try.f10.body 0))) ZdG:=
 loopP trivial
def Zbh (a:List PINT) (b:List PINT):RT (Option (Bool)):=
 let x1:=runF true Zab (λa_1=>1000000000000) (a,b,false,iN (List.length a),0,())
 let x2:=getO (false,a,b,false,iN (List.length a),0,()) x1
 .br (iN (List.length a) !=iN (List.length b)) (.leaf (some (false))) (.br (okB x1) (.br x2.1 (.leaf (some x2.2.2.2.1)) (.leaf (some (true)))) (.leaf none))
def ZbM (a:List PINT) (b:List PINT):Bool:=getO Zcw.dflt (Zbh a b).val
def Zbj (a:List PINT) (b:List PINT):Bool:=okB (Zbh a b).val
def Zbi:Entry:=ZM Zeg Zcw (λa=>some (Zbj a.1 a.2)) (λa=>ZbM a.1 a.2)
theorem ZbL:Za Try.prog 10 Zbi:=
 pureP 63 [] [(0,ZdG)] Zeg Zcw trivial Try.func10 Try.call10 ⟨Ze9,Tv⟩ (t:=λa=>Zbh a.1 a.2)
end
end Go.Proofs.Ytlgmapcjapofoaa
namespace Go.Proofs.Ytlgmapcjapofoaa
open Go Go.S3 Go.Proofs Go.RowKit Go.Shelf
attribute [local go_sem] Oper.semAt_some
noncomputable section
set_option maxRecDepth 100000 in
set_option maxHeartbeats 2000000 in
theorem Znj (F:Fence) (n:Nat) (h:F.fn 30) (hro:F.round=none) (a lo hi:Int) (w:World):
  CallsIn F n Try.prog 30 #[.int .i64 a,.int .i64 lo,.int .i64 hi] w λe w'=>e=.returned (.int .i64 (gLim a lo hi))/\w'=w:=by
 refine callsIn_of_wp Try.func30 rfl h ?_ hro
 simp only[Try.ntmps30,List.size_toArray,List.length_cons,List.length_nil,Nat.reduceAdd,Nat.reduceSub,Array.replicate_succ,Array.replicate_zero,List.push_toArray,List.append_toArray,List.nil_append,List.cons_append]
 gi_wp2
 all_goals go_ret
 all_goals refine⟨?_,rfl⟩
 all_goals simp[*,gLim,Zfd,RT.val]
 all_goals omega
abbrev Z8 (x:ITMT):Array Value:= #[.int .i64 x.1,.int .i64 x.2.1.1,.int .u16 x.2.1.2.1,.int .u8 x.2.1.2.2.1,.int .i64 x.2.1.2.2.2,.int .i64 x.2.2.1,.int .i64 x.2.2.2.1,.bool x.2.2.2.2.1,.bool x.2.2.2.2.2]
set_option maxRecDepth 100000 in
set_option maxHeartbeats 4000000 in
theorem Zof (F:Fence) (n:Nat) (h:F.fn 28) (hl:F.fn 30) (hro:F.round=none) (hn:1<=n) (x:ITMT) (w:World):
  CallsIn F n Try.prog 28 #[.agg (Z8 x)] w λe w'=>e=.returned (.tuple #[.int .i64 (gRep x).1,.int .i64 (gRep x).2])/\w'=w.alloc (.cells (Z8 x) 44):=by
 refine callsIn_of_wp Try.func28 rfl h ?_ hro
 simp only[Try.ntmps28,List.size_toArray,List.length_cons,List.length_nil,Nat.reduceAdd,Nat.reduceSub,Array.replicate_succ,Array.replicate_zero,List.push_toArray,List.append_toArray,List.nil_append,List.cons_append]
 gi_wp2_with (gi_at_call 30;refine (Znj F (n-1) hl hro _ _ _ _).mono ?_;rintro e w' ⟨rfl,rfl⟩)
 all_goals go_ret2
 all_goals refine⟨?_,rfl⟩
 all_goals simp[*,gRep,ZeQ,RT.val]
def stsC (w m:Nat):List Int:=(List.range m).flatMap λk=>((k+1:Nat):Int)::bif k==1 then List.replicate w 7 else []
theorem ZbI (w m:Nat):stsC w (m+1)=stsC w m++((m+1:Nat):Int)::bif m==1 then List.replicate w 7 else []:=by
 simp[stsC,List.range_succ]
def stsL (x:ITMT):List Int:=bif x.1 !=1 then List.replicate (gRep x).2.toNat (gRep x).1 else stsC (min x.2.2.1 65536).toNat (gLim x.2.2.2.1 1 (gLim x.2.1.2.2.2 3 6)).toNat
theorem Zkz (w:Nat):∀(m k:Nat),k<=m->(stsC w k).length<=(stsC w m).length
 |0,k,h=>by rw[show k=0 by omega];exact Nat.le_refl _
 |m+1,k,h=>by
  by_cases e:k=m+1
  ·rw[e];exact Nat.le_refl _
  ·have:=Zkz w m k (by omega)
   rw[ZbI,List.length_append];omega
def Zda (W:World) (B:Nat) (x:ITMT):Prop:=W.heap[B]? =some (.cells (Z8 x) 44)
theorem Zda.cell {W:World} {B:Nat} {x:ITMT} (h:Zda W B x) (i:Nat) (hi:i<9):W.cell? ⟨B,i,none⟩=some ((Z8 x).getD i undef):=by
 unfold Zda at h
 simp only[World.cell?,h]
 match i,hi with
 |0,_=>rfl
 |1,_=>rfl
 |2,_=>rfl
 |3,_=>rfl
 |4,_=>rfl
 |5,_=>rfl
 |6,_=>rfl
 |7,_=>rfl
 |8,_=>rfl
 |i+9,hi=>omega
def KpB (B:Nat) (W W':World):Prop:=W'.heap[B]? =W.heap[B]?
set_option maxRecDepth 100000 in
set_option maxHeartbeats 8000000 in
theorem ZnB (F:Fence) (n:Nat) (h:F.fn 29) (hr:F.fn 28) (hl:F.fn 30) (hro:F.round=none) (hn:2<=n) (y B N:Nat) (x:ITMT) (J Jx:List Int->World->Prop) (W:World) (hJo:AbidesFrom W.heap.size J)
  (hN:(stsL x).length<=N)
  (hY:∀pre t W1,0<=t->t<=10->J pre W1->pre.length<N->YieldAt F (n-1) Try.prog y #[.int .i64 t] W1 λe W'=>
   (e=.returned (.bool true)/\J (pre++[t]) W'/\KpB B W1 W')\/(e=.returned (.bool false)/\Jx (pre++[t]) W'))
  (hB:Zda W B x) (h0:J [] W):
  CallsIn F n Try.prog 29 #[.func (.yield y) #[] #[],.pointer (some ⟨B,0,none⟩)] W λe W'=>(∃v,e=.returned v)/\
   ((∃ys,ys=stsL x/\J ys W')\/(∃pre,True/\Jx pre W')):=by
 refine callsIn_of_wp Try.func29 rfl h ?_ hro
 simp only[Try.ntmps29,List.size_toArray,List.length_cons,List.length_nil,Nat.reduceAdd,Nat.reduceSub,Array.replicate_succ,Array.replicate_zero,List.push_toArray,List.append_toArray,List.nil_append,List.cons_append]
 obtain⟨L,hL⟩:∃L,L=stsL x:=⟨_,rfl⟩
 rw[<-hL] at hN|-
 have c0:=hB.cell 0 (by omega)
 have c1:=hB.cell 1 (by omega)
 have c2:=hB.cell 2 (by omega)
 have c3:=hB.cell 3 (by omega)
 have c4:=hB.cell 4 (by omega)
 have c5:=hB.cell 5 (by omega)
 have c6:=hB.cell 6 (by omega)
 have c7:=hB.cell 7 (by omega)
 have c8:=hB.cell 8 (by omega)
 simp[Z8,Array.getD] at c0 c1 c2 c3 c4 c5 c6 c7 c8
 have hn1:1<=n:=by omega
 gi_wp2_with (gi_at_call 28;refine (Zof F (n-1) hr hl hro (by omega) x _).mono ?_;rintro e w' ⟨rfl,rfl⟩)
 ·have hx:(x.1 !=1)=true:=by assumption
  have eL:stsL x=List.replicate (gRep x).2.toNat (gRep x).1:=by unfold stsL;rw[hx];rfl
  rw[eL] at hL
  rw[hL,List.length_replicate] at hN
  have hJ1:J [] (W.alloc (.cells (Z8 x) 44)):=hJo _ _ _ none h0 (World.grownBy_alloc W _ none) (λr e=>by cases e)
  clear hJo h0 hB c0 c1 c2 c3 c4 c5 c6 c7 c8 eL
  have htm:0<=(gRep x).2/\(gRep x).2<=65536:=by
   unfold gRep ZeQ
   simp only[gLim,Zfd,RT.val]
   cases x.1==2<;>cases x.1==3<;>cases x.1==4<;>simp[RT.val]<;>omega
  obtain⟨ht0,ht1⟩:=htm
  have hst:0<=(gRep x).1/\(gRep x).1<=10:=by
   unfold gRep ZeQ
   cases x.1==2<;>cases x.1==3<;>cases x.1==4<;>simp[RT.val]
  generalize (gRep x).1=st at*
  generalize (gRep x).2=tm at*
  subst hL
  gi_wp2
  gi_loopw [17] (λi wr=>∃k:Nat,k<=tm.toNat/\i=.int .i64 (k:Int)/\J (List.replicate k st) wr) (λi _=>tm.toNat-(intOf i).toNat)
  case atStart=>exact⟨0,Nat.zero_le _,rfl,hJ1⟩
  case round=>
   obtain⟨k,hk,rfl,hJs⟩:=hrel
   by_cases hlt:(k:Int)<tm
   ·obtain⟨fn,tmps,assign,body,hy,hR⟩:=hY _ st wr hst.1 hst.2 hJs (by rw[List.length_replicate];omega)
    have hb:(k:Int)+1<=65536:=by omega
    have hb0:(0:Int)<=k:=by omega
    gi_wp2
    ·refine hR.mono ?_
     rintro e W3 (⟨rfl,hJ3,hk3⟩|⟨rfl,hJx3⟩)
     ·gi_wp2
      go_roundw
      case rel=>exact⟨k+1,by omega,rfl,by rw[List.replicate_succ'];exact hJ3⟩
      case measure=>simp[intOf];omega
     ·gi_wp2
      refine bodyPost_ret (results_none rfl _ _ _) rfl ?_
      exact⟨⟨_,rfl⟩,.inr ⟨_,trivial,hJx3⟩⟩
   ·gi_wp2
    refine bodyPost_ret (results_none rfl _ _ _) rfl ?_
    have e5:tm.toNat=k:=by omega
    rw[<-e5] at hJs
    exact⟨⟨_,rfl⟩,.inl hJs⟩
 ·refine wpIn_mono (Q:=λe a' w'=>e=.normal/\a'={tmps:= #[.func (.yield y) #[] #[],.pointer (some ⟨B,0,none⟩),undef,undef,undef,.int .i64 (gLim x.2.2.2.1 1 (gLim x.2.1.2.2.2 3 6)),undef,undef,.pointer (some ⟨B,0,none⟩),.int .i64 x.1,.bool false,undef,undef,undef,undef,undef,undef,undef,undef,undef,undef,undef,undef,undef,.pointer (some ⟨B,6,none⟩),.int .i64 x.2.2.2.1,.pointer (some ⟨B,1,none⟩),.pointer (some ⟨B,4,none⟩),.int .i64 x.2.1.2.2.2,.int .i64 (gLim x.2.1.2.2.2 3 6),.int .i64 (gLim x.2.2.2.1 1 (gLim x.2.1.2.2.2 3 6)),undef,undef,undef,undef,undef,undef,undef,undef,undef,undef,undef,undef,undef,undef,undef,undef,undef,undef,undef,undef,undef,undef,undef],defers:=[]}/\w'=W.drew) ?reg ?_
  case reg=>
   gi_region_with (gi_at_call 30;refine (Znj F (n-1) hl hro _ _ _ _).mono ?_;rintro e w' ⟨rfl,rfl⟩)
   all_goals exact⟨rfl,rfl,rfl⟩
  rintro e a' w' ⟨rfl,rfl,rfl⟩
  have hx:(x.1 !=1)=false:=by assumption
  have eL:stsL x=stsC (min x.2.2.1 65536).toNat (gLim x.2.2.2.1 1 (gLim x.2.1.2.2.2 3 6)).toNat:=by unfold stsL;rw[hx];rfl
  have hm1:1<=gLim x.2.2.2.1 1 (gLim x.2.1.2.2.2 3 6)/\gLim x.2.2.2.1 1 (gLim x.2.1.2.2.2 3 6)<=6:=by simp only[gLim,Zfd,RT.val];omega
  dsimp only
  rw[eL] at hL
  have hJ1:J [] W.drew:=hJo _ _ _ none h0 ⟨rfl,rfl,rfl,Nat.le_refl _,λ_ _ _=>rfl⟩ (λr e=>by cases e)
  have hB1:Zda W.drew B x:=hB
  clear hJo h0 hB c0 c1 c2 c3 c4 c5 c6 c7 c8 eL
  generalize gLim x.2.2.2.1 1 (gLim x.2.1.2.2.2 3 6)=g at*
  obtain⟨m,rfl⟩:∃m:Nat,g=(m:Int):=⟨g.toNat,by omega⟩
  generalize W.drew=W0 at*
  rw[Int.toNat_natCast] at hL
  generalize hwn:(min x.2.2.1 65536).toNat=wn at*
  subst hL
  gi_wp2
  gi_loopw [6] (λi wr=>∃k:Nat,k<=m/\i=.int .i64 ((k:Int)+1)/\J (stsC wn k) wr/\Zda wr B x) (λi _=>m+1-(intOf i).toNat)
  case atStart=>exact⟨0,Nat.zero_le _,rfl,by simpa [stsC] using hJ1,hB1⟩
  case round=>
   obtain⟨k,hk,rfl,hJs,hBr⟩:=hrel
   by_cases hlt:k<m
   ·have c5:=hBr.cell 5 (by omega)
    simp[Z8,Array.getD] at c5
    have hlen:∀j:Nat,j<=(bif k==1 then wn else 0)->(stsC wn k++((k+1:Nat):Int)::List.replicate j 7).length<=(stsC wn m).length:=by
     intro j hj
     refine Nat.le_trans ?_ (Zkz wn m (k+1) hlt)
     rw[ZbI]
     simp only[List.length_append,List.length_cons,List.length_replicate]
     cases hk1:k==1<;>rw[hk1] at hj<;>simp at hj|- <;>omega
    obtain⟨fn,tmps,assign,body,hy,hR⟩:=hY _ ((k:Int)+1) wr (by omega) (by omega) hJs (by have:=hlen 0 (Nat.zero_le _);simp at this;omega)
    have hb:(k:Int)+1<=6:=by omega
    have hb0:(0:Int)<=k:=by omega
    gi_wp2
    refine hR.mono ?_
    rintro e W3 (⟨rfl,hJ3,hk3⟩|⟨rfl,hJx3⟩)
    ·gi_wp2
     gi_loopw [7] (λi wr=>∃j:Nat,j<=(bif k==1 then wn else 0)/\i=.int .i64 (j:Int)/\J (stsC wn k++((k+1:Nat):Int)::List.replicate j 7) wr/\Zda wr B x) (λi _=>wn+1-(intOf i).toNat)
     case atStart=>exact⟨0,Nat.zero_le _,rfl,by simpa using hJ3,hk3.trans hBr⟩
     case round=>
      obtain⟨j,hj,rfl,hJs,hBr⟩:=hrel
      have c5:=hBr.cell 5 (by omega)
      simp[Z8,Array.getD] at c5
      have hwn0:wn<=65536:=by omega
      have hj65:(j:Int)<=65536:=by cases hq:k==1<;>rw[hq] at hj<;>simp at hj<;>omega
      have hj0:(0:Int)<=j:=by omega
      by_cases hc:k=1/\j<wn
      ·obtain⟨fn,tmps,assign,body,hy,hR⟩:=hY _ 7 wr (by omega) (by omega) hJs (by have:=hlen (j+1) (by simp[hc.1];omega);simp at this|-;omega)
       have hnext:∀W,J ((stsC wn k++((k+1:Nat):Int)::List.replicate j 7)++[7]) W->J (stsC wn k++((k+1:Nat):Int)::List.replicate (j+1) 7) W:=by
        intro W h
        rw[List.replicate_succ'];simpa using h
       have hj1:j+1<=(bif k==1 then wn else 0):=by simp[hc.1];omega
       gi_wp2
       all_goals first
        |(exfalso;omega)
        |skip
       all_goals
        refine hR.mono ?_
        rintro e W5 (⟨rfl,hJ5,hk5⟩|⟨rfl,hJx5⟩)
       all_goals gi_wp2
       all_goals first
        |(refine bodyPost_ret (results_none rfl _ _ _) rfl ?_
          exact⟨⟨_,rfl⟩,.inr ⟨_,trivial,hJx5⟩⟩)
        |(go_roundw
          case rel=>
           simp only[show (k:Int)+1=2 by omega]
           exact⟨_,_,_,_,_,_,_,_,_,_,_,_,_,_,_,⟨j+1,hj1,rfl,hnext _ hJ5,hk5.trans hBr⟩,rfl⟩
          case measure=>simp[intOf];omega)
      ·gi_wp2
       all_goals first
        |(exfalso;omega)
        |skip
       all_goals
        have hjj:j=bif k==1 then wn else 0:=by
         by_cases hk1:k=1
         ·have:¬j<wn:=λh=>hc ⟨hk1,h⟩
          subst hk1
          simp at hj|-;omega
         ·have:(k==1)=false:=by simpa using hk1
          rw[this] at hj|-
          exact Nat.le_zero.1 hj
        have hfin:J (stsC wn (k+1)) wr:=by
         rw[ZbI]
         rw[hjj] at hJs
         cases hk1:k==1<;>rw[hk1] at hJs<;>simpa using hJs
        refine⟨⟨k+1,by omega,by first|rfl|(congr 1;omega),hfin,hBr⟩,?_⟩
        simp[intOf];omega
    ·gi_wp2
     refine bodyPost_ret (results_none rfl _ _ _) rfl ?_
     exact⟨⟨_,rfl⟩,.inr ⟨_,trivial,hJx3⟩⟩
   ·have hb:(k:Int)<=6:=by omega
    have hb0:(0:Int)<=k:=by omega
    gi_wp2
    refine bodyPost_end (results_none rfl _ _ _) rfl ?_
    exact⟨⟨_,rfl⟩,.inl ⟨_,rfl,by rw[show m=k by omega];exact hJs⟩⟩
set_option maxRecDepth 100000 in
set_option maxHeartbeats 2000000 in
theorem Zoa (F:Fence) (n:Nat) (h:F.fn 23) (hro:F.round=none) (x:ITMT) (w:World):
  CallsIn F n Try.prog 23 #[.agg (Z8 x)] w λe w'=>e=.returned (.func (.func 29) #[] #[.pointer (some ⟨w.heap.size,0,none⟩)])/\w'=w.alloc (.cells (Z8 x) 44):=by
 refine callsIn_of_wp Try.func23 rfl h ?_ hro
 simp only[Try.ntmps23,List.size_toArray,List.length_cons,List.length_nil,Nat.reduceAdd,Nat.reduceSub,Array.replicate_succ,Array.replicate_zero,List.push_toArray,List.append_toArray,List.nil_append,List.cons_append]
 gi_wp2
 go_ret
 exact⟨rfl,rfl⟩
abbrev StT:={t:Int//0<=t/\t<=10}
abbrev stEnc (t:StT):Array Value:= #[.int .i64 t.1]
theorem Zky (F:Fence) (n:Nat) (h:F.fn 29) (hr:F.fn 28) (hl:F.fn 30) (hro:F.round=none) (hn:2<=n) (B:Nat) (x:ITMT) (w:World) (hBs:B<w.heap.size) (hB:Zda w B x):
  SeqStopsK F n Try.prog 29 #[.pointer (some ⟨B,0,none⟩)] stEnc (KpB B) (λys=>ys.map (·.1)=stsL x) (λ_=>True) (stsL x).length w:=λy J Jx W hW hJ _ hY h0=>by
 refine (ZnB F n h hr hl hro hn y B (stsL x).length x (λl W=>∃l':List StT,l'.map (·.1)=l/\J l' W) (λl W=>∃l':List StT,Jx l' W) W ?_ (Nat.le_refl _) ?_ ?_ ⟨[],rfl,h0⟩).mono ?_
 ·rintro l A C row ⟨l',e,hl'⟩ hg hr'
  exact⟨l',e,hJ l' A C row hl' hg hr'⟩
 ·rintro pre t W1 t0 t1 ⟨l',e,hl'⟩ hlen
  have hlen':l'.length<(stsL x).length:=by rw[<-e,List.length_map] at hlen;exact hlen
  obtain⟨fn,tmps,assign,body,hy,hR⟩:=hY l' ⟨t,t0,t1⟩ W1 hl' hlen'
  refine⟨fn,tmps,assign,body,hy,hR.mono ?_⟩
  rintro e' W' (⟨e1,e2,e3⟩|⟨e1,e2⟩)
  ·exact .inl ⟨e1,⟨l'++[⟨t,t0,t1⟩],by simp[e],e2⟩,e3⟩
  ·exact .inr ⟨e1,_,e2⟩
 ·exact (hW.block B hBs).trans hB
 ·rintro e W' ⟨hv,(⟨ys,e1,l',e2,e3⟩|⟨pre,_,l',e3⟩)⟩
  ·exact⟨hv,.inl ⟨l',e2.trans e1,e3⟩⟩
  ·exact⟨hv,.inr ⟨l',trivial,e3⟩⟩
end
end Go.Proofs.Ytlgmapcjapofoaa
