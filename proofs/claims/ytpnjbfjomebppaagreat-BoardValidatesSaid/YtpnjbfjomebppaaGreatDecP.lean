import Derived.Test.YtpnjbfjomebppaaGreatSysD
open Go.Proofs.Tryz (prog)
open Go.IntKind (u8 u16 i64)
set_option linter.unusedSimpArgs false
open Go Go.S3 Go.Proofs
set_option linter.unusedVariables false
set_option maxRecDepth 100000
namespace Go.Proofs.YtpnjbfjomebppaaGreat
noncomputable section
abbrev Zax:R:=R.int u8
abbrev Zay:Nat:=5
abbrev ZiK:List Sh:=[Sh.one (R.sl Zfv)]
def ZxA:LS:={n:=64,Sl:=[(3,.tip 0),(7,.code (Sh.one (R.sl Zfv))),(8,.code (Sh.one (R.int i64))),(9,.code (Sh.one (R.int i64)))],Bx:=[],Sg:=[⟨(R.int u8),5,false⟩]}
def Zg9 (a:List INPT×Int×Int×List Int×PUnit):RT (Option (Go1 (List INPT×Int×Int×List Int×PUnit))):=
 let x1:INPT:=R.get Zfv a.1 a.2.2.1
 let x2:= !x1.1
 let x3:=ZeW x2 0
 let x4:= !x3
 let x5:=x1.2
 let x6:=x5.1
 let x7:=ZeW x6 1
 let x8:= !x7
 let x9:=x5.2
 let x10:=x9.1
 let x11:=ZeW x10 2
 let x12:= !x11
 let x13:=x9.2
 let x14:=x13.1
 let x15:=ZeW x14 3
 let x16:= !x15
 let p1:=x16::x12::x8::x4::[]
 let x17:=x13.2
 let x18:=x17.1
 let x19:=ZeW x18 4
 let x20:= !x19
 let p3:=x20::p1
 let x21:=x17.2
 let x22:=x21.1
 let x23:=ZeW x22 5
 let x24:= !x23
 let p5:=x24::p3
 let x25:=x21.2
 let x26:=x25.1
 let x27:=ZeW x26 6
 let p8:=(!x27)::p5
 let x28:=x25.2
 let x29:=x28.1
 let x30:=orR p8 (ZeW x29 7)
 let x31:= !x30
 let x32:=orR p5 x27
 let x33:= !x32
 let p2:=x33::x31::(decide (a.2.2.1>=65536))::(!Zf a.2.2.1 (List.length a.1))::[]
 let x34:=orR p3 x23
 let x35:= !x34
 let p4:=x35::p2
 let x36:=orR p1 x19
 let x37:= !x36
 let p6:=x37::p4
 let x38:=x4||(x8||(x12||x15))
 let x39:= !x38
 let p7:=x39::p6
 let x40:=x4||(x8||x11)
 let x41:= !x40
 let p9:=x41::p7
 let x42:=x4||x7
 let x43:= !x42
 let p10:=x43::p9
 let p11:=x4::p10
 let x44:=orI u8 (orI u8 (orI u8 (orI u8 (orI u8 (orI u8 (orI u8 (wBit x2 0) (wBit x6 1)) (wBit x10 2)) (wBit x14 3)) (wBit x18 4)) (wBit x22 5)) (wBit x26 6)) (wBit x29 7)
 let x45:=x28.2
 let x46:=x45.1
 let x47:=x45.2
 let x48:List Int:=a.2.2.2.1++[x44,x46,x47,ZgR x44 x46 x47]
 .br (decide (a.2.2.1<a.2.1)) (.br (orR p11 (Nat.ble (List.length x48) most)) (.br (orR p10 x3) (.br (orR p9 x42) (.br (orR p7 x40) (.br (orR p6 x38) (.br (orR p4 x36) (.br (orR p2 x34) (.br (!Zf a.2.2.1 (List.length a.1)||(decide (a.2.2.1>=65536)||(x31||x32))) (.br (!Zf a.2.2.1 (List.length a.1)||(decide (a.2.2.1>=65536)||x30)) (.br (Zf a.2.2.1 (List.length a.1)) (.br (decide (a.2.2.1>=65536)) (.Lf (some (Go1.brk (a.1,a.2.1,a.2.2.1,a.2.2.2.1,PUnit.unit)))) (.Lf (some (Go1.cont (a.1,a.2.1,i64.wrap (a.2.2.1+1),x48,PUnit.unit))))) (.Lf none)) (.Lf none)) (.Lf none)) (.Lf none)) (.Lf none)) (.Lf none)) (.Lf none)) (.Lf none)) (.Lf none)) (.Lf none)) (.Lf (some (Go1.brk (a.1,a.2.1,a.2.2.1,a.2.2.2.1,PUnit.unit))))
def Zk6:Ora:=Zbo false ZxA Zg9 (λa=>1000000000000)
theorem ZqK:Za3 (envX prog [(116,ZHU),(117,Zk7)] [] 127 8) (.block 0 (.loop (Z2 Tryz.f56.body 0))) Zk6:=
 loopP ⟨ZqL,ZhA,Tv⟩
def ZfD (l:List INPT):RT (Option (List Int)):=
 let x1:=runF false Zg9 (λa=>1000000000000) (l,iN (List.length l),0,[],())
 .br (okB x1) (.Lf (some (getO (false,l,iN (List.length l),0,[],()) x1).2.2.2.2.1)) (.Lf none)
def Zbh (l:List INPT):List Int:=getO [] (ZfD l).val
def ZfE (l:List INPT):Bool:=okB (ZfD l).val
def Zut:En:=frzE (newE Zax Zay ZiK (λa=>some (ZfE a)) (λa=>Zbh a))
theorem Zuu:Za prog 56 (newE Zax Zay ZiK (λa=>some (ZfE a)) (λa=>Zbh a)):=
 ZkP (P:=prog) (n:=127) (k:=8) (l:=[(116,ZHU),(117,Zk7)]) (ol:=[(0,Zk6)]) ⟨ZqL,ZhA,Tv⟩ Tryz.func56 rfl (by kernel_rfl) Tryz.call56 ⟨ZqK,Tv⟩ (r:=Zax) (T:=Zay) (ts:=ZiK) (t:=λa=>ZfD a) (λa=>by kernel_rfl)
theorem Zxz:Za prog 56 Zut:=Zw7 Zuu
abbrev ZnT:R:=R.Pq (R.sl (R.int i64)) (R.int i64)
abbrev Zwo:List Sh:=[Sh.one (R.int i64)]
abbrev ZnS:Rs:=Rs.one (Sh.one (R.sl (R.int u8)))
def ZgB (s:List Int×Int) (n:Int):RT (Option (List Int×List Int×Int)):=
 let x1:=decide (iN (List.length (Stg.l (newG Zax Zay (Zbh (Z3 s n).1))))>0)
 let x2:=x1&&(Zb (Z3 s n).2 4).1==0
 let x3:= !x2
 let x4:List Int:=bif x1 then (Zb (Z3 s n).2 4).2.1 else (Z3 s n).2.1
 let x5:Int:=bif x1 then (Zb (Z3 s n).2 4).2.2 else (Z3 s n).2.2
 let x6:List Int×Int:=(x4,x5)
 let x7:=Zh x6 (iN (List.length (Stg.l (newG Zax Zay (Zbh (Z3 s n).1)))))
 let x8:= !x7
 let x9:=Zb x6 (iN (List.length (Stg.l (newG Zax Zay (Zbh (Z3 s n).1)))))
 let x10:=x9.1
 let x11:=Zf x10 (List.length (Stg.l (newG Zax Zay (Zbh (Z3 s n).1))))
 let x12:= !x11
 let x13:=x9.2
 let x14:=Zh x13 8
 let x15:= !x14
 let p1:=x15::x12::x8::x3::[]
 let x16:=Zb x13 8
 let x17:=x16.1
 let x18:=decide (0<=x17)
 let p2:=(!x18)::p1
 let x19:=x16.2
 .br (!Zik s n||ZfE (Z3 s n).1) (.br (Zik s n) (.br (!x1||Zh (Z3 s n).2 4) (.br (orR p2 x11) (.br (orR p1 x18) (.br (x3||(x8||(x12||x14))) (.br (x3||(x8||x11)) (.br (x3||x7) (.Lf (some ((bif x2 then setI (Stg.l (newG Zax Zay (Zbh (Z3 s n).1))) x10 (xorI u8 (R.get (Stg.r (newG Zax Zay (Zbh (Z3 s n).1))) (Stg.l (newG Zax Zay (Zbh (Z3 s n).1))) x10) (shlI u8 1 x17)) else Stg.l (newG Zax Zay (Zbh (Z3 s n).1)),bif x2 then x19.1 else x4,bif x2 then x19.2 else x5)))) (.Lf none)) (.Lf none)) (.Lf none)) (.Lf none)) (.Lf none)) (.Lf none)) (.Lf none)) (.Lf none)
def Zf2 (s:List Int×Int) (n:Int):List Int×List Int×Int:=getO (ZnS.Df,ZnT.Df) (ZgB s n).val
def ZkQ (s:List Int×Int) (n:Int):Bool:=okB (ZgB s n).val
def ZEi:En:=boxE ZnT Zwo ZnS (λa=>some (ZkQ a.1 a.2)) (λa=>Zf2 a.1 a.2)
theorem ZG8:Za prog 67 ZEi:=
 Zb8 (P:=prog) (n:=63) (k:=8) (l:=[(56,Zut),(68,Zcn),(125,ZEj)]) (ol:=[]) ⟨Zxz,ZaT,ZHb,Tv⟩ Tryz.func67 rfl (by kernel_rfl) Tryz.call67 trivial (rb:=ZnT) (ts:=Zwo) (rs:=ZnS) (t:=λa=>ZgB a.1 a.2) (λa=>by kernel_rfl)
end
end Go.Proofs.YtpnjbfjomebppaaGreat
open Go Go.S3 Go.Proofs Go.Proofs.Cells
namespace Go.Proofs.YtpnjbfjomebppaaGreat
noncomputable section
theorem ZNN:Zg9=ZcF:=by funext a;rfl
theorem ZOy (l:List INPT) (hl:l.length<=1000):ZfE l=true/\Zbh l=Zha l/\(Zbh l).length=4*l.length:=by
 have h:=ZE6 l hl;have e:ZfD l=ZeV l:=by unfold ZfD ZeV;rw[ZNN]
 have e2:Zbh l=Zha l:=by unfold Zbh Zha;rw[e];rfl
 refine⟨by unfold ZfE;rw[e];exact h.1,e2,by rw[e2];exact h.2⟩
theorem ZG9 {s:List Int×Int} {k:Int} (h:NB s k) (hk:k<=50000) (n:Nat) (hn:n<=250):
  ZkQ s (n:Int)=true/\NB (Zf2 s (n:Int)).2 (k+10+30*n)/\(Zf2 s (n:Int)).1.length<=4*n/\∃m:Nat,(Zf2 s (n:Int)).1.length=4*m:=by
 have hms:=mst;obtain⟨c1,b1,l1⟩:=ZHc h (by omega) n hn;obtain⟨c2,e2,l2⟩:=ZOy (Z3 s (n:Int)).1 (by omega);have hg:∀l:List Int,Stg.l (newG Zax Zay l)=l:=λ_=>rfl
 have hr:∀l:List Int,Stg.r (newG Zax Zay l)=R.int .u8:=λ_=>rfl
 obtain⟨L,hL⟩:∃L,L=Zbh (Z3 s (n:Int)).1:=⟨_,rfl⟩;rw[<-hL] at l2;obtain⟨c3,b3,_⟩:=Zv b1 (by omega) 4 (by decide) (by decide);have b4:NB (bif decide (iN L.length>0) then (Zb (Z3 s (n:Int)).2 4).2.1 else (Z3 s (n:Int)).2.1,bif decide (iN L.length>0) then (Zb (Z3 s (n:Int)).2 4).2.2 else (Z3 s (n:Int)).2.2) (k+3+30*n):=by
  cases decide (iN L.length>0)
  ·exact b1.up (by omega)
  ·exact b3.up (by omega)
 obtain⟨s4,hs4⟩:∃s4:List Int×Int,s4=(bif decide (iN L.length>0) then (Zb (Z3 s (n:Int)).2 4).2.1 else (Z3 s (n:Int)).2.1,bif decide (iN L.length>0) then (Zb (Z3 s (n:Int)).2 4).2.2 else (Z3 s (n:Int)).2.2):=⟨_,rfl⟩;rw[<-hs4] at b4;have hv:∃l s',(ZgB s (n:Int)).val=some (l,s')/\NB s' (k+10+30*n)/\l.length=L.length:=by
  by_cases hz:0<L.length
  ·have d:decide (iN L.length>0)=true:=YQ (by simp only[iN];omega);obtain⟨c5,b5,d0,d1⟩:=Zv b4 (by omega) (iN L.length) (by simp only[iN];omega) (by simp only[iN];omega);obtain⟨c6,b6,f0,f1⟩:=Zv b5 (by omega) 8 (by decide) (by decide);have r5:Zf (Zb s4 (iN L.length)).1 L.length=true:=Zae.2 ⟨d0,by simpa [iN] using d1⟩;have e6:decide (0<=(Zb (Zb s4 (iN L.length)).2 8).1)=true:=YQ f0;rw[d] at hs4;simp only[Yb] at hs4;unfold ZgB;simp only[RT.val,hg,hr,<-hL,c1,c2,d,c3,<-hs4,c5,r5,c6,e6,ZdO,Zcm,YZ,Yg,Yk,Yj,Yb];cases (Zb (Z3 s (n:Int)).2 4).1==0
   ·exact⟨_,_,rfl,b3.up (by omega),rfl⟩
   ·exact⟨_,_,rfl,b6.up (by omega),by simp only[Yb,setI,Yax]⟩
  ·have d:decide (iN L.length>0)=false:=Yak (by simp only[iN];omega);rw[d] at hs4;simp only[Ye] at hs4;unfold ZgB;simp only[RT.val,hg,hr,<-hL,c1,c2,d,ZdO,Zcm,Y7,Yg,Yq,YB,Yk,Yj,Yb,Ye];exact⟨_,_,rfl,b1.up (by omega),rfl⟩
 obtain⟨l,s',hv,h1,h2⟩:=hv;simp only[ZkQ,Zf2,hv,okB,getO];exact⟨trivial,h1,by omega,(Z3 s (n:Int)).1.length,by omega⟩
abbrev ZDg:List Sh:=[Sh.one (R.int i64),Sh.one (R.int i64)]
abbrev ZDh:Rs:=Rs.one (Sh.one (R.int i64))
def Zza (l:Int) (k:Int):RT (Int):=
 .Lf (andI i64 (i64.wrap (i64.wrap (andI i64 l 7-andI i64 k 7)+7)) 7)
def ZvC (l:Int) (k:Int):Int:=(Zza l k).val
def ZKm:En:=Zg ZDg ZDh (λ_=>none) (λa=>ZvC a.1 a.2)
theorem ZKl:Za prog 381 ZKm:=
 pureQ 31 [] [] ZDg ZDh trivial Tryz.func381 Tryz.call381 trivial (t:=λa=>Zza a.1 a.2)
abbrev ZDk:List Sh:=[Sh.one (R.int u8),Sh.one (R.int i64)]
abbrev ZrW:Rs:=Rs.one (Sh.one (R.int i64))
def ZKp:LS:={n:=22,Sl:=[(0,.code (Sh.one (R.int u8))),(1,.code (Sh.one (R.int i64))),(4,.code (Sh.one (R.int i64))),(5,.code (Sh.one (R.int i64)))],Bx:=[],Sg:=[]}
def Zc0 (a:QT23):RT (Option (Go1 (QT23))):=
 let x1:=andI i64 (i64.wrap (andI i64 a.2.1 7+a.2.2.2.1)) 7
 .br (decide (a.2.2.2.1<=8)) (.br (decide (0<=x1)) (.br (andI u8 (shrI u8 a.1 x1) 1==1) (.Lf (some (Go1.ret (a.1,a.2.1,x1,a.2.2.2.1,PUnit.unit)))) (.Lf (some (Go1.cont (a.1,a.2.1,a.2.2.1,i64.wrap (a.2.2.2.1+1),PUnit.unit))))) (.Lf none)) (.Lf (some (Go1.brk (a.1,a.2.1,a.2.2.1,a.2.2.2.1,PUnit.unit))))
def ZvE:Ora:=Zbo true ZKp Zc0 (λa=>9)
theorem Zzb:Za3 (envX prog [] [] 127 8) (.block 0 (.loop (Z2 Tryz.f346.body 0))) ZvE:=
 loopP trivial
def Zhl (s:Int) (k:Int):RT (Option (Int)):=
 let x1:=runF true Zc0 (λa=>9) (s,k,0,1,())
 let x2:=getO (false,s,k,0,1,()) x1
 .br (okB x1) (.br x2.1 (.Lf (some x2.2.2.2.1)) (.Lf (some (-1)))) (.Lf none)
def Zh5 (s:Int) (k:Int):Int:=getO ZrW.Df (Zhl s k).val
def Zhm (s:Int) (k:Int):Bool:=okB (Zhl s k).val
def Zzc:En:=Zg ZDk ZrW (λa=>some (Zhm a.1 a.2)) (λa=>Zh5 a.1 a.2)
theorem ZvD:Za prog 346 Zzc:=
 pureP 127 [] [(0,ZvE)] ZDk ZrW trivial Tryz.func346 Tryz.call346 ⟨Zzb,Tv⟩ (t:=λa=>Zhl a.1 a.2)
abbrev ZDi:List Sh:=[Sh.one (R.int u8),Sh.one (R.int u8),Sh.one (R.int u8),Sh.one (R.int i64),Sh.one R.bool]
abbrev ZrU:Rs:=Rs.one (Sh.one (R.int i64))
def Zms (r:Int) (m:Int) (s:Int) (k:Int) (p:Bool):RT (Option (Int)):=
 .br (!Zhm (ZS u8 r m) k||Zhm (bif p then ZS u8 s m else s) k) (.br (Zhm (ZS u8 r m) k) (.br (decide (Zh5 (ZS u8 r m) k<0)||decide (Zh5 (bif p then ZS u8 s m else s) k>=0)&&decide (ZvC (Zh5 (ZS u8 r m) k) k>=ZvC (Zh5 (bif p then ZS u8 s m else s) k) k)) (.Lf (some (-1))) (.Lf (some (Zh5 (ZS u8 r m) k)))) (.Lf none)) (.Lf none)
def ZDj (r:Int) (m:Int) (s:Int) (k:Int) (p:Bool):Int:=getO ZrU.Df (Zms r m s k p).val
def ZrV (r:Int) (m:Int) (s:Int) (k:Int) (p:Bool):Bool:=okB (Zms r m s k p).val
def ZKo:En:=Zg ZDi ZrU (λa=>some (ZrV a.1 a.2.1 a.2.2.1 a.2.2.2.1 a.2.2.2.2)) (λa=>ZDj a.1 a.2.1 a.2.2.1 a.2.2.2.1 a.2.2.2.2)
theorem ZKn:Za prog 344 ZKo:=
 pureP 8191 [(346,Zzc),(381,ZKm)] [] ZDi ZrU ⟨ZvD,ZKl,Tv⟩ Tryz.func344 Tryz.call344 trivial (t:=λa=>Zms a.1 a.2.1 a.2.2.1 a.2.2.2.1 a.2.2.2.2)
abbrev ZKy:List Sh:=[]
abbrev ZKz:Rs:=Rs.one (Sh.agg Zbd)
def ZSb:RT PICT:=
 .Lf ((0,false,false,false,false,0,0,false,false,false,false,false,0,0,0,0,7,0,0,false))
def ZfX:PICT:=(ZSb).val
def ZvG:En:=Zg ZKy ZKz (λ_=>none) (λa=>ZfX)
theorem Zr6:Za prog 99 ZvG:=
 pureQ 1 [] [] ZKy ZKz trivial Tryz.func99 Tryz.call99 trivial (t:=λa=>ZSb)
abbrev ZKs:List Sh:=[Sh.agg Zbd]
abbrev ZKu:Rs:=Rs.one (Sh.one (R.int u8))
def ZKt (p:PICT):RT (Int):=
 .br p.2.1 (.Lf p.2.2.2.2.2.2.2.2.2.2.2.2.1) (.Lf p.2.2.2.2.2.2.2.2.2.2.2.2.2.1)
def ZFQ (p:PICT):Int:=(ZKt p).val
def ZKv:En:=Zg ZKs ZKu (λ_=>none) (λa=>ZFQ a)
theorem ZDn:Za prog 273 ZKv:=
 pureQ 7 [] [] ZKs ZKu trivial Tryz.func273 Tryz.call273 trivial (t:=λa=>ZKt a)
abbrev ZDo:List Sh:=[Sh.agg Zbd]
abbrev Zr4:Rs:=Rs.one (Sh.one (R.int i64))
def ZmA (p:PICT):RT (Option (Int)):=
 let x1:=p.2.2.2.2.2.2.2.2.2.2.2.2.2.2
 let x2:=x1.2
 let x3:=x2.1
 let x4:=x1.1
 let x5:=x2.2.1
 .br (ZrV (ZFQ p) x3 x4 x5 p.2.2.2.2.2.2.2.2.2.1) (.Lf (some (ZDj (ZFQ p) x3 x4 x5 p.2.2.2.2.2.2.2.2.2.1))) (.Lf none)
def ZaK (p:PICT):Int:=getO Zr4.Df (ZmA p).val
def Zi9 (p:PICT):Bool:=okB (ZmA p).val
def Zr5:En:=Zg ZDo Zr4 (λa=>some (Zi9 a)) (λa=>ZaK a)
theorem Zmz:Za prog 268 Zr5:=
 pureP 7 [(273,ZKv),(344,ZKo)] [] ZDo Zr4 ⟨ZDn,ZKn,Tv⟩ Tryz.func268 Tryz.call268 trivial (t:=λa=>ZmA a)
abbrev Zr7:List Sh:=[Sh.agg Zbd]
abbrev Zr8:Rs:=Rs.one (Sh.one R.bool)
def ZvH (p:PICT):RT (Option (Bool)):=
 .br (Zi9 p) (.Lf (some (decide (ZaK p>=0)))) (.Lf none)
def ZT4 (p:PICT):Bool:=getO Zr8.Df (ZvH p).val
def ZKA (p:PICT):Bool:=okB (ZvH p).val
def ZWG:En:=Zg Zr7 Zr8 (λa=>some (ZKA a)) (λa=>ZT4 a)
theorem ZPC:Za prog 199 ZWG:=
 pureP 7 [(268,Zr5)] [] Zr7 Zr8 ⟨Zmz,Tv⟩ Tryz.func199 Tryz.call199 trivial (t:=λa=>ZvH a)
abbrev Zmw:List Sh:=[Sh.agg Zbd,Sh.one (R.int u8)]
abbrev Zmx:Rs:=Rs.one (Sh.agg Zbd)
def Zr3 (p:PICT) (l:Int):RT PICT:=
 let x1:=p.2.2.2.2.2.2.2.2.2.2.2.2.2
 .Lf ((p.1,p.2.1,p.2.2.1,p.2.2.2.1,p.2.2.2.2.1,p.2.2.2.2.2.1,p.2.2.2.2.2.2.1,p.2.2.2.2.2.2.2.1,p.2.2.2.2.2.2.2.2.1,p.2.2.2.2.2.2.2.2.2.1,p.2.2.2.2.2.2.2.2.2.2.1,p.2.2.2.2.2.2.2.2.2.2.2.1,l,andI u8 (orI u8 x1.1 (ZS u8 l p.2.2.2.2.2.2.2.2.2.2.2.2.1)) l,x1.2))
def Zzi (p:PICT) (l:Int):PICT:=(Zr3 p l).val
def ZPB:En:=Zg Zmw Zmx (λ_=>none) (λa=>Zzi a.1 a.2)
theorem ZFS:Za prog 198 ZPB:=
 pureQ 31 [] [] Zmw Zmx trivial Tryz.func198 Tryz.call198 trivial (t:=λa=>Zr3 a.1 a.2)
abbrev ZDm:List Sh:=[Sh.agg Zbd,Sh.one (R.int i64)]
abbrev Zr0:Rs:=Rs.one (Sh.agg Zbd)
def ZrZ (p:PICT) (x:Int):RT (Option PICT):=
 let x1:=p.2.2.2.2.2.2.2.2.2.2.2.2.2
 let x2:=x1.2
 .br (decide (0<=x)) (.br (decide (0<=x)) (.Lf (some ((p.1,p.2.1,p.2.2.1,p.2.2.2.1,p.2.2.2.2.1,p.2.2.2.2.2.1,p.2.2.2.2.2.2.1,p.2.2.2.2.2.2.2.1,p.2.2.2.2.2.2.2.2.1,p.2.2.2.2.2.2.2.2.2.1,p.2.2.2.2.2.2.2.2.2.2.1,p.2.2.2.2.2.2.2.2.2.2.2.1,p.2.2.2.2.2.2.2.2.2.2.2.2.1,ZS u8 x1.1 (shlI u8 1 x),orI u8 x2.1 (shlI u8 1 x),x2.2)))) (.Lf none)) (.Lf none)
def Zp3 (p:PICT) (x:Int):PICT:=getO Zr0.Df (ZrZ p x).val
def Zi8 (p:PICT) (x:Int):Bool:=okB (ZrZ p x).val
def Zzf:En:=Zg ZDm Zr0 (λa=>some (Zi8 a.1 a.2)) (λa=>Zp3 a.1 a.2)
theorem ZvF:Za prog 271 Zzf:=
 pureP 31 [] [] ZDm Zr0 trivial Tryz.func271 Tryz.call271 trivial (t:=λa=>ZrZ a.1 a.2)
abbrev ZKC:List Sh:=[Sh.agg Zbd,Sh.one (R.int i64)]
abbrev Zzk:Rs:=Rs.one (Sh.agg Zbd)
def ZDq (p:PICT) (x:Int):RT (Option PICT):=
 let x1:=p.2.2.2.2.2.2.2.2.2.2.2.2.2
 let x2:=x1.2
 let x3:=x2.2
 let x4:=x3.2
 .br (decide (0<=x)) (.Lf (some ((p.1,p.2.1,p.2.2.1,p.2.2.2.1,p.2.2.2.2.1,p.2.2.2.2.2.1,p.2.2.2.2.2.2.1,p.2.2.2.2.2.2.2.1,p.2.2.2.2.2.2.2.2.1,p.2.2.2.2.2.2.2.2.2.1,p.2.2.2.2.2.2.2.2.2.2.1,p.2.2.2.2.2.2.2.2.2.2.2.1,p.2.2.2.2.2.2.2.2.2.2.2.2.1,x1.1,ZS u8 x2.1 (shlI u8 1 x),x3.1,bif p.2.2.2.2.2.2.2.2.1 then x else x4.1,x4.2)))) (.Lf none)
def ZFT (p:PICT) (x:Int):PICT:=getO Zzk.Df (ZDq p x).val
def Zp4 (p:PICT) (x:Int):Bool:=okB (ZDq p x).val
def ZKD:En:=Zg ZKC Zzk (λa=>some (Zp4 a.1 a.2)) (λa=>ZFT a.1 a.2)
theorem ZDp:Za prog 272 ZKD:=
 pureP 31 [] [] ZKC Zzk trivial Tryz.func272 Tryz.call272 trivial (t:=λa=>ZDq a.1 a.2)
abbrev ZDr:List Sh:=[Sh.agg Zbd,Sh.one (R.int u8)]
abbrev ZDs:Rs:=Rs.one (Sh.agg Zbd)
def Zzl (p:PICT) (v:Int):RT PICT:=
 let x1:=p.2.2.2.2.2.2.2.2.2.2.2.2.2
 let x2:=x1.2
 let x3:=x2.2
 let x4:=x3.1
 .Lf ((bif p.1==2 then bif p.2.2.2.1 then bif p.2.2.2.2.1 then 4 else 0 else 3 else bif p.1==3 then bif p.2.2.2.2.1 then 4 else 0 else bif p.1==4 then 0 else p.1,p.2.1,p.2.2.1,p.2.2.2.1,p.2.2.2.2.1,p.2.2.2.2.2.1,bif p.1==2 then v else p.2.2.2.2.2.2.1,bif p.1==2 then p.2.2.2.2.2.2.2.1 else bif p.1==3 then p.2.2.2.2.2.2.2.1 else bif p.1==4 then andI u8 v 2 !=0 else p.2.2.2.2.2.2.2.1,p.2.2.2.2.2.2.2.2.1,p.2.2.2.2.2.2.2.2.2.1,p.2.2.2.2.2.2.2.2.2.2.1,p.2.2.2.2.2.2.2.2.2.2.2.1,p.2.2.2.2.2.2.2.2.2.2.2.2.1,x1.1,x2.1,bif p.1==2 then x4 else bif p.1==3 then x4 else bif p.1==4 then x4 else v,x3.2))
def ZDt (p:PICT) (v:Int):PICT:=(Zzl p v).val
def ZKF:En:=Zg ZDr ZDs (λ_=>none) (λa=>ZDt a.1 a.2)
theorem ZKE:Za prog 274 ZKF:=
 pureQ 35655743 [] [] ZDr ZDs trivial Tryz.func274 Tryz.call274 trivial (t:=λa=>Zzl a.1 a.2)
abbrev ZKG:List Sh:=[Sh.agg Zbd,Sh.one (R.int u8)]
abbrev Zzm:Rs:=Rs.one (Sh.agg Zbd)
def ZvI (p:PICT) (v:Int):RT (Option PICT):=
 let x1:=p.2.2.2.2.2.2.2.2.2.2.2.2.2
 let x2:=x1.2
 let x3:=x2.1
 let x4:=x2.2
 let x5:=x4.1
 let x6:Int:=bif p.2.2.2.2.2.2.2.2.2.1 then ZS u8 x3 x5 else x3
 let x7:=x4.2
 let x8:=x7.1
 let x9:=bif shrI u8 v 5==1 then shrI u8 v 5==1 else shrI u8 v 5==5
 let x10:=Zh5 x6 x8
 let x11:=decide (x10<0)
 let p1:=x11::(!x9)::(shrI u8 v 5==4)::(shrI u8 v 5==0)::[]
 let x12:= !shrI u8 v 5==3||decide (0<=i64.wrap (andI u8 v 7))
 let p2:=(!shrI u8 v 5==7)::(shrI u8 v 5==3)::(!x12)::x9::(shrI u8 v 5==4)::(shrI u8 v 5==0)::[]
 let x13:=ZS u8 x3 (shlI u8 1 (i64.wrap (andI u8 v 7)))
 .br (Zhm x6 x8) (.br (orR p1 (decide (0<=x10))) (.br (orR p2 (decide (0<=i64.wrap (andI u8 v 7)))) (.br (shrI u8 v 5==0||(shrI u8 v 5==4||(x9||x12))) (.Lf (some ((p.1,p.2.1,p.2.2.1,p.2.2.2.1,p.2.2.2.2.1,p.2.2.2.2.2.1,p.2.2.2.2.2.2.1,p.2.2.2.2.2.2.2.1,!shrI u8 v 5==0&&(shrI u8 v 5==4||p.2.2.2.2.2.2.2.2.1),p.2.2.2.2.2.2.2.2.2.1,p.2.2.2.2.2.2.2.2.2.2.1,p.2.2.2.2.2.2.2.2.2.2.2.1,p.2.2.2.2.2.2.2.2.2.2.2.2.1,x1.1,bif shrI u8 v 5==0 then x3 else bif shrI u8 v 5==4 then x3 else bif x9 then bif x11 then x3 else ZS u8 x3 (shlI u8 1 x10) else bif shrI u8 v 5==3 then x13 else bif shrI u8 v 5==7 then x13 else x3,x5,bif shrI u8 v 5==0 then x8 else bif shrI u8 v 5==4 then x8 else bif x9 then bif x11 then x8 else bif shrI u8 v 5==5 then x10 else x8 else bif shrI u8 v 5==3 then x8 else bif shrI u8 v 5==7 then i64.wrap (andI u8 v 7) else bif shrI u8 v 5==6 then i64.wrap (andI u8 v 7) else x8,x7.2)))) (.Lf none)) (.Lf none)) (.Lf none)) (.Lf none)
def ZPE (p:PICT) (v:Int):PICT:=getO Zzm.Df (ZvI p v).val
def ZDu (p:PICT) (v:Int):Bool:=okB (ZvI p v).val
def ZSc:En:=Zg ZKG Zzm (λa=>some (ZDu a.1 a.2)) (λa=>ZPE a.1 a.2)
theorem ZPD:Za prog 275 ZSc:=
 pureP 36929657684375896319 [(346,Zzc)] [] ZKG Zzm ⟨ZvD,Tv⟩ Tryz.func275 Tryz.call275 trivial (t:=λa=>ZvI a.1 a.2)
abbrev Zmt:List Sh:=[Sh.agg Zbd,Sh.one R.bool,Sh.one (R.int u8)]
abbrev Zh7:Rs:=Rs.one (Sh.agg Zbd)
def Zh6 (p:PICT) (h:Bool) (v:Int):RT (Option PICT):=
 .br (h||(andI u8 v 16 !=0||(!andI u8 v 8==0||ZDu p v))) (.br (h) (.Lf (some (ZDt p v))) (.br (andI u8 v 16 !=0) (.Lf (some ((2,andI u8 v 8 !=0,andI u8 v 4 !=0,andI u8 v 2 !=0,andI u8 v 1 !=0,andI u8 v 224,0,false,false,false,false,false,p.2.2.2.2.2.2.2.2.2.2.2.2.1,0,0,0,7,0,0,false)))) (.br (andI u8 v 8==0) (.Lf (some (ZPE p v))) (.Lf (some ((p.1,p.2.1,p.2.2.1,p.2.2.2.1,p.2.2.2.2.1,p.2.2.2.2.2.1,p.2.2.2.2.2.2.1,p.2.2.2.2.2.2.2.1,p.2.2.2.2.2.2.2.2.1,bif andI u8 v 64 !=0 then andI u8 v 32 !=0 else p.2.2.2.2.2.2.2.2.2.1,bif andI u8 v 2 !=0 then andI u8 v 1 !=0 else p.2.2.2.2.2.2.2.2.2.2.1,andI u8 v 4 !=0||p.2.2.2.2.2.2.2.2.2.2.2.1,p.2.2.2.2.2.2.2.2.2.2.2.2))))))) (.Lf none)
def Zze (p:PICT) (h:Bool) (v:Int):PICT:=getO Zh7.Df (Zh6 p h v).val
def ZrY (p:PICT) (h:Bool) (v:Int):Bool:=okB (Zh6 p h v).val
def ZPA:En:=Zg Zmt Zh7 (λa=>some (ZrY a.1 a.2.1 a.2.2)) (λa=>Zze a.1 a.2.1 a.2.2)
theorem ZFP:Za prog 207 ZPA:=
 pureP 4398046519807 [(99,ZvG),(274,ZKF),(275,ZSc)] [] Zmt Zh7 ⟨Zr6,ZKE,ZPD,Tv⟩ Tryz.func207 Tryz.call207 trivial (t:=λa=>Zh6 a.1 a.2.1 a.2.2)
abbrev Zr1:List Sh:=[Sh.agg Zbd,Sh.one R.bool]
abbrev ZkE:Rs:=Rs.tup [Sh.agg Zbd,Sh.one (R.int u8)]
def Zmv (p:PICT) (h:Bool):RT (Option (PICT×Int)):=
 let x1:= !p.2.2.2.2.2.2.2.2.2.2.2.1
 let x2:PICT:=(p.1,p.2.1,p.2.2.1,p.2.2.2.1,p.2.2.2.2.1,p.2.2.2.2.2.1,p.2.2.2.2.2.2.1,p.2.2.2.2.2.2.2.1,p.2.2.2.2.2.2.2.2.1,p.2.2.2.2.2.2.2.2.2.1,p.2.2.2.2.2.2.2.2.2.2.1,false,p.2.2.2.2.2.2.2.2.2.2.2.2)
 let x3:=h||(x1||Zi9 x2)
 let x4:= !x3
 let x5:=ZaK x2
 let x6:=decide (x5<0)
 let p1:=x6::x1::h::x4::[]
 let x7:=Zi8 x2 x5
 let x8:=Zp3 x2 x5
 let x9:=x8.2
 let x10:=x9.2
 let x11:=x10.2
 let x12:=x11.2
 let x13:=x12.2
 let x14:=x13.2
 let x15:=x14.2
 let x16:=x15.1
 let p2:=(!x16)::(!x7)::p1
 let x17:=p.2.2.2.2.2.2.2.2.2.2.2.2.2.2
 let x18:=ZFT x8 x5
 .br (orR p2 (Zp4 x8 x5)) (.br (orR p1 x7) (.br (x3) (.br (h) (.Lf (some ((p,x17.2.1)))) (.br p.2.2.2.2.2.2.2.2.2.2.2.1 (.br (x6) (.Lf (some ((x2,0)))) (.Lf (some (((R.sel Zbd x16 x18 x8),u8.wrap (128+u8.wrap x5)))))) (.br p.2.2.2.2.2.2.2.2.2.2.1 (.Lf (some ((p,x17.1)))) (.Lf (some ((p,ZFQ p))))))) (.Lf none)) (.Lf none)) (.Lf none)
def ZKx (p:PICT) (h:Bool):PICT×Int:=getO ZkE.Df (Zmv p h).val
def Zzg (p:PICT) (h:Bool):Bool:=okB (Zmv p h).val
def ZT3:En:=Zg Zr1 ZkE (λa=>some (Zzg a.1 a.2)) (λa=>ZKx a.1 a.2)
theorem ZKw:Za prog 205 ZT3:=
 pureP 8589938943 [(268,Zr5),(271,Zzf),(272,ZKD),(273,ZKv)] [] Zr1 ZkE ⟨Zmz,ZvF,ZDp,ZDn,Tv⟩ Tryz.func205 Tryz.call205 trivial (t:=λa=>Zmv a.1 a.2)
abbrev Zzn:List Sh:=[Sh.agg Zbd]
abbrev Zr9:Rs:=Rs.tup [Sh.agg Zbd,Sh.one (R.int u8)]
def ZvJ (p:PICT):RT (Option (PICT×Int)):=
 let x1:=p.2.2.2.2.2.2.2.2.2.2.2.2.2
 let x2:=x1.2
 let x3:=x2.2
 let x4:=x3.2
 let x5:=x4.2
 let x6:=x5.1
 let x7:=x6==0
 let x8:= !x7
 let x9:=x8||Zi9 p
 let x10:=p.2.2.2.2.2.2.2.2.2.2.2.2.1
 let x11:=x1.1
 let x12:=x2.1
 let x13:=x3.1
 let x14:=x4.1
 let x15:=x5.2
 let x16:=x15.1
 let x17:PICT:=(p.1,p.2.1,p.2.2.1,p.2.2.2.1,p.2.2.2.2.1,p.2.2.2.2.2.1,p.2.2.2.2.2.2.1,p.2.2.2.2.2.2.2.1,p.2.2.2.2.2.2.2.2.1,p.2.2.2.2.2.2.2.2.2.1,p.2.2.2.2.2.2.2.2.2.2.1,p.2.2.2.2.2.2.2.2.2.2.2.1,x10,x11,x12,x13,x14,x6,x16,decide (ZaK p<0))
 let x18:=Zp3 x17 (ZaK p)
 let x19:=x18.2
 let x20:=x19.2
 let x21:=x20.2
 let x22:=x21.2
 let x23:=x22.2
 let x24:=x23.2
 let x25:=x24.2
 let x26:=x25.2
 let x27:=x26.2
 let x28:=x27.2
 let x29:=x28.2
 let x30:=x29.2
 let x31:=x30.2
 let x32:=x31.2
 let x33:=x32.2
 let x34:=x33.2
 let x35:PICT:=(p.1,p.2.1,p.2.2.1,p.2.2.2.1,p.2.2.2.2.1,p.2.2.2.2.2.1,p.2.2.2.2.2.2.1,p.2.2.2.2.2.2.2.1,p.2.2.2.2.2.2.2.2.1,p.2.2.2.2.2.2.2.2.2.1,p.2.2.2.2.2.2.2.2.2.2.1,p.2.2.2.2.2.2.2.2.2.2.2.1,x10,x11,x12,x13,x14,2,x15)
 let x36:=andI i64 x16 7
 let x37:=x15.2
 let x38:=p.2.2.2.2.2.2.2.1&& !x37
 let x39:PICT:=(p.1,p.2.1,p.2.2.1,p.2.2.2.1,p.2.2.2.2.1,p.2.2.2.2.2.1,p.2.2.2.2.2.2.1,p.2.2.2.2.2.2.2.1,p.2.2.2.2.2.2.2.2.1,p.2.2.2.2.2.2.2.2.2.1,p.2.2.2.2.2.2.2.2.2.2.1,p.2.2.2.2.2.2.2.2.2.2.2.1,x10,x11,x12,x13,x14,0,x15)
 let x40:=ZFT x39 x36
 let x41:=x40.2
 let x42:=x41.2
 let x43:=x42.2
 let x44:=x43.2
 let x45:=x44.2
 let x46:=x45.2
 let x47:Int:=bif x38 then x46.1 else p.2.2.2.2.2.2.1
 let x48:=x46.2
 let x49:=x48.2
 let x50:=x49.2
 let x51:=x50.2
 let x52:=x51.2
 let x53:=x52.2
 let x54:=x53.2
 let x55:=x54.2
 let x56:=x55.2
 let x57:=x56.2
 let x58:=x57.2
 let x59:=x58.2
 .br (!x9||(x8||(decide (ZaK p<0)||Zi8 x17 (ZaK p)))) (.br (x9) (.br (x7) (.Lf (some (((bif decide (ZaK p<0) then p.1 else x18.1,bif decide (ZaK p<0) then p.2.1 else x19.1,bif decide (ZaK p<0) then p.2.2.1 else x20.1,bif decide (ZaK p<0) then p.2.2.2.1 else x21.1,bif decide (ZaK p<0) then p.2.2.2.2.1 else x22.1,bif decide (ZaK p<0) then p.2.2.2.2.2.1 else x23.1,bif decide (ZaK p<0) then p.2.2.2.2.2.2.1 else x24.1,bif decide (ZaK p<0) then p.2.2.2.2.2.2.2.1 else x25.1,bif decide (ZaK p<0) then p.2.2.2.2.2.2.2.2.1 else x26.1,bif decide (ZaK p<0) then p.2.2.2.2.2.2.2.2.2.1 else x27.1,bif decide (ZaK p<0) then p.2.2.2.2.2.2.2.2.2.2.1 else x28.1,bif decide (ZaK p<0) then p.2.2.2.2.2.2.2.2.2.2.2.1 else x29.1,bif decide (ZaK p<0) then x10 else x30.1,bif decide (ZaK p<0) then x11 else x31.1,bif decide (ZaK p<0) then x12 else x32.1,bif decide (ZaK p<0) then x13 else x33.1,bif decide (ZaK p<0) then x14 else x34.1,1,bif decide (ZaK p<0) then 7 else ZaK p,bif decide (ZaK p<0) then decide (ZaK p<0) else x34.2.2.2),205)))) (.br (x6==1) (.br p.2.2.1 (.Lf (some ((x35,u8.wrap (andI u8 p.2.2.2.2.2.1 224+u8.wrap (i64.wrap (4*x36))))))) (.Lf (some ((x35,u8.wrap (andI u8 p.2.2.2.2.2.1 192+u8.wrap (i64.wrap (8*x36)))))))) (.br (!x38||Zp4 x39 x36) (.Lf (some (((bif x38 then x40.1 else p.1,bif x38 then x41.1 else p.2.1,bif x38 then x42.1 else p.2.2.1,bif x38 then x43.1 else p.2.2.2.1,bif x38 then x44.1 else p.2.2.2.2.1,bif x38 then x45.1 else p.2.2.2.2.2.1,x47,bif x38 then x48.1 else p.2.2.2.2.2.2.2.1,bif x38 then x49.1 else p.2.2.2.2.2.2.2.2.1,bif x38 then x50.1 else p.2.2.2.2.2.2.2.2.2.1,bif x38 then x51.1 else p.2.2.2.2.2.2.2.2.2.2.1,bif x38 then x52.1 else p.2.2.2.2.2.2.2.2.2.2.2.1,bif x38 then x53.1 else x10,bif x38 then x54.1 else x11,bif x38 then x55.1 else x12,bif x38 then x56.1 else x13,bif x38 then x57.1 else x14,bif x38 then x58.1 else 0,bif x38 then x59.1 else x16,bif x38 then x59.2 else x37),x47)))) (.Lf none)))) (.Lf none)) (.Lf none)
def ZT5 (p:PICT):PICT×Int:=getO Zr9.Df (ZvJ p).val
def ZKH (p:PICT):Bool:=okB (ZvJ p).val
def ZWH:En:=Zg Zzn Zr9 (λa=>some (ZKH a)) (λa=>ZT5 a)
theorem ZPF:Za prog 203 ZWH:=
 pureP 134219839 [(268,Zr5),(271,Zzf),(272,ZKD)] [] Zzn Zr9 ⟨Zmz,ZvF,ZDp,Tv⟩ Tryz.func203 Tryz.call203 trivial (t:=λa=>ZvJ a)
abbrev ZBL:List Sh:=[Sh.agg (R.Pq (R.int u16) (R.Pq (R.int u8) (R.int i64)))]
abbrev ZBM:Rs:=Rs.one (Sh.one R.bool)
def ZNY (d:QT4):RT (Bool):=
 .Lf (decide (d.2.2>0))
def ZRb (d:QT4):Bool:=(ZNY d).val
def ZSO:En:=Zg ZBL ZBM (λ_=>none) (λa=>ZRb a)
theorem ZEU:Za prog 141 ZSO:=
 pureQ 7 [] [] ZBL ZBM trivial Tryz.func141 Tryz.call141 trivial (t:=λa=>ZNY a)
abbrev Zua:List Sh:=[Sh.agg (R.Pq (R.int u16) (R.Pq (R.int u8) (R.int i64))),Sh.one (R.int i64)]
abbrev Zub:Rs:=Rs.one (Sh.one (R.int u8))
def ZBN (d:QT4) (r:Int):RT (Int):=
 .br (andI i64 r 3==0) (.Lf (u8.wrap d.1)) (.br (andI i64 r 3==1) (.Lf (u8.wrap (shrI u16 d.1 8))) (.br (andI i64 r 3==2) (.Lf d.2.1) (.Lf (u8.wrap d.2.2))))
def ZEV (d:QT4) (r:Int):Int:=(ZBN d r).val
def ZVz:En:=Zg Zua Zub (λ_=>none) (λa=>ZEV a.1 a.2)
theorem ZNZ:Za prog 206 ZVz:=
 pureQ 266399 [] [] Zua Zub trivial Tryz.func206 Tryz.call206 trivial (t:=λa=>ZBN a.1 a.2)
abbrev ZoN:List Sh:=[Sh.agg (R.Pq (R.int u16) (R.Pq (R.int u8) (R.int i64))),Sh.one (R.int i64),Sh.one (R.int u8)]
abbrev ZoO:Rs:=Rs.one (Sh.agg (R.Pq (R.int u16) (R.Pq (R.int u8) (R.int i64))))
def Zt9 (d:QT4) (r:Int) (v:Int):RT (QT4):=
 .Lf ((bif andI i64 r 3==0 then orI u16 (andI u16 d.1 65280) (u16.wrap v) else bif andI i64 r 3==1 then orI u16 (andI u16 d.1 255) (shlI u16 (u16.wrap v) 8) else d.1,bif andI i64 r 3==0 then d.2.1 else bif andI i64 r 3==1 then d.2.1 else bif andI i64 r 3==2 then v else d.2.1,bif andI i64 r 3==0 then d.2.2 else bif andI i64 r 3==1 then d.2.2 else bif andI i64 r 3==2 then d.2.2 else bif andI i64 r 3==3 then i64.wrap v else d.2.2))
def ZBH (d:QT4) (r:Int) (v:Int):QT4:=(Zt9 d r v).val
def ZQ9:En:=Zg ZoN ZoO (λ_=>none) (λa=>ZBH a.1 a.2.1 a.2.2)
theorem ZHD:Za prog 208 ZQ9:=
 pureQ 4563665535 [] [] ZoN ZoO trivial Tryz.func208 Tryz.call208 trivial (t:=λa=>Zt9 a.1 a.2.1 a.2.2)
abbrev ZBI:List Sh:=[Sh.agg (R.Pq (R.int u16) (R.Pq (R.int u8) (R.int i64)))]
abbrev ZBJ:Rs:=Rs.tup [Sh.agg (R.Pq (R.int u16) (R.Pq (R.int u8) (R.int i64))),Sh.agg (R.Pq (R.int u16) (R.int u8)),Sh.one R.bool]
def ZNW (d:QT4):RT ((QT4)×(Int×Int)×Bool):=
 .br (!ZRb d) (.Lf (((0,0,0),(0,0),false))) (.Lf (((u16.wrap (d.1+1),d.2.1,i64.wrap (d.2.2-1)),(d.1,d.2.1),true)))
def ZVy (d:QT4):(QT4)×(Int×Int)×Bool:=(ZNW d).val
def ZXn:En:=Zg ZBI ZBJ (λ_=>none) (λa=>ZVy a)
theorem ZRa:Za prog 142 ZXn:=
 pureQ 63 [(141,ZSO)] [] ZBI ZBJ ⟨ZEU,Tv⟩ Tryz.func142 Tryz.call142 trivial (t:=λa=>ZNW a)
def mapG {α β:Type} (φ:α->β):Go1 α->Go1 β
 | .cont a=>.cont (φ a)
 | .brk a=>.brk (φ a)
 | .ret a=>.ret (φ a)
theorem ZCw {α β:Type} (φ:α->β) {f:α->Option (Go1 α)} {g:β->Option (Go1 β)} (h:∀a,g (φ a)=(f a).map (mapG φ)):∀(n:Nat) (a:α),runL g n (φ a)=(runL f n a).map λr=>(r.1,φ r.2)
 |0,a=>rfl
 |n+1,a=>by
  unfold runL;rw[h a];cases hf:f a with
  |none=>rfl
  |some r=>cases r with
   |cont a'=>exact ZCw φ h n a'
   |brk a'=>rfl
   |ret a'=>rfl
theorem ZCy {α β:Type} (φ:α->β) {f:α->RT (Option (Go1 α))} {g:β->RT (Option (Go1 β))} (h:∀a,(g (φ a)).val=((f a).val).map (mapG φ)) (fl:Bool) (n:Nat) (a:α):
  runF fl g (λ_=>n) (φ a)=(runF fl f (λ_=>n) a).map λr=>(r.1,φ r.2):=by
 unfold runF;rw[ZCw φ h n a];cases runL (λa=>(f a).val) n a with
 |none=>rfl
 |some r=>obtain⟨b,d⟩:=r;cases fl<;>cases b<;>rfl
theorem ZHu:(List.range 256).all (λs=>(List.range 8).all λk=>(Zhl (s:Int) (k:Int)).val==some (ZcZ (s:Int) (k:Int))&&ZhC (s:Int) (k:Int))=true:=by kernel_rfl
theorem Zxv (k:Int):andI .i64 (andI .i64 k 7) 7=andI .i64 k 7:=by
 obtain⟨h0,h1⟩:=and7 k;generalize andI .i64 k 7=v at*;have:v=0\/v=1\/v=2\/v=3\/v=4\/v=5\/v=6\/v=7:=by omega
 rcases this with rfl|rfl|rfl|rfl|rfl|rfl|rfl|rfl<;>decide
def phiK (a:QT23):QT23:=(a.1,andI .i64 a.2.1 7,a.2.2)
theorem ZPx (s k:Int):(Zhl s k).val=(Zhl s (andI .i64 k 7)).val:=by
 have h:=ZCy phiK (f:=Zc0) (g:=Zc0) (by
  rintro⟨s,k,r,i,u⟩;simp only[Zc0,phiK,RT.val,Zxv]
  cases h3:(andI u8 (shrI u8 s (andI i64 (i64.wrap (andI i64 k 7+i)) 7)) 1==1)<;>by_cases h1:i<=8<;>by_cases h2:0<=andI i64 (i64.wrap (andI i64 k 7+i)) 7<;>simp[h1,h2,mapG,phiK]) true 9 (s,k,0,1,())
 have h':runF true Zc0 (λ_=>9) (s,andI .i64 k 7,0,1,())=(runF true Zc0 (λ_=>9) (s,k,0,1,())).map λr=>(r.1,phiK r.2):=h
 simp only[Zhl,RT.val,h'];cases runF true Zc0 (λ_=>9) (s,k,0,1,()) with
 |none=>rfl
 |some r=>obtain⟨b,d⟩:=r;cases b<;>rfl
theorem ZS7 (l k:Int):ZcG l (andI .i64 k 7)=ZcG l k:=by simp only[ZcG,ZHY,RT.val,Zxv]
theorem ZTd (s k:Int):(Zlb s k).val=(Zlb s (andI .i64 k 7)).val:=by
 have h:=ZCy phiK (f:=ZcX) (g:=ZcX) (by
  rintro⟨s,k,r,i,u⟩;simp only[ZcX,phiK,RT.val,ZS7]
  cases h3:vOnC s i<;>by_cases h1:i<8<;>by_cases q1:r<0<;>by_cases q2:ZcG i k<ZcG r k<;>cases vOn s i<;>simp[h1,q1,q2,mapG,phiK]) false 9 (s,k,-1,0,())
 have h':runF false ZcX (λ_=>9) (s,andI .i64 k 7,-1,0,())=(runF false ZcX (λ_=>9) (s,k,-1,0,())).map λr=>(r.1,phiK r.2):=h
 simp only[Zlb,RT.val,h'];cases runF false ZcX (λ_=>9) (s,k,-1,0,()) with
 |none=>rfl
 |some r=>rfl
theorem ZBy (s k:Int) (hs:inR .u8 s):Zhm s k=true/\ZhC s k=true/\Zh5 s k=ZcZ s k:=by
 obtain⟨h0,h1⟩:=and7 k;rw[Ziu] at hs;obtain⟨a,rfl⟩:∃a:Nat,s=(a:Int):=⟨s.toNat,by omega⟩;obtain⟨b,hb⟩:∃b:Nat,andI .i64 k 7=(b:Int):=⟨(andI .i64 k 7).toNat,by omega⟩;have key:=YR.1 (YR.1 ZHu a (by simp;omega)) b (by simp;omega);simp only[Ya,YaB] at key;obtain⟨k1,k2⟩:=key;have e1:=ZPx (a:Int) k;have e2:=ZTd (a:Int) k;rw[hb] at e1 e2;rw[k1] at e1;have e3:ZcZ (a:Int) k=ZcZ (a:Int) (b:Int):=by simp only[ZcZ,e2]
 have e4:ZhC (a:Int) k=true:=by simp only[ZhC,e2];exact k2
 refine⟨by simp only[Zhm,e1,okB],e4,?_⟩;simp only[Zh5,e1,getO,e3]
theorem ZTG (l k:Int):ZvC l k=ZcG l k:=by
 simp only[ZvC,Zza,ZcG,ZHY,RT.val];obtain⟨a0,a1⟩:=and7 l;obtain⟨b0,b1⟩:=and7 k;generalize andI .i64 l 7=a at*;generalize andI .i64 k 7=b at*;obtain⟨x,rfl⟩:∃x:Nat,a=(x:Int):=⟨a.toNat,by omega⟩;obtain⟨y,rfl⟩:∃y:Nat,b=(y:Int):=⟨b.toNat,by omega⟩;have key:(List.range 8).all (λx=>(List.range 8).all λy=>andI i64 (i64.wrap (i64.wrap ((x:Int)-(y:Int))+7)) 7==andI i64 (i64.wrap (i64.wrap ((x:Int)-(y:Int))+15)) 7)=true:=by kernel_rfl
 have:=YR.1 (YR.1 key x (by simp;omega)) y (by simp;omega);simpa using this
theorem ZDl (r m s k:Int) (p:Bool) (hs:inR .u8 s):ZrV r m s k p=true/\ZuB r m s k p=true/\ZDj r m s k p=ZE9 r m s k p:=by
 obtain⟨a1,a2,a3⟩:=ZBy (ZS u8 r m) k (Zan _ _);have hb:inR .u8 (Zcf m s p):=by
  cases p
  ·simpa [Zcf,Zld,RT.val] using hs
  ·have:Zcf m s true=ZS u8 s m:=by simp[Zcf,Zld,RT.val]
   rw[this];exact Zan _ _
 have eb:(bif p then ZS u8 s m else s)=Zcf m s p:=by cases p<;>simp[Zcf,Zld,RT.val]
 obtain⟨b1,b2,b3⟩:=ZBy (Zcf m s p) k hb;have h1:(Zms r m s k p).val=(Zla r m s k p).val:=by
  simp only[Zms,Zla,RT.val,eb,a1,a2,b1,b2,a3,b3,ZTG,Yb,Yk];generalize ZcZ (ZS u8 r m) k=x;generalize ZcZ (Zcf m s p) k=y;by_cases q1:x<0
  ·have:¬x>=0:=by omega
   simp[q1,this]
  ·have q1':x>=0:=by omega
   by_cases q2:y<0
   ·have:¬y>=0:=by omega
    simp[q1,q1',q2,this]
   ·have q2':y>=0:=by omega
    by_cases q3:ZcG x k<ZcG y k
    ·have:¬ZcG x k>=ZcG y k:=by omega
     simp[q1,q1',q2,q2',q3,this]
    ·have q3':ZcG x k>=ZcG y k:=by omega
     simp[q1,q1',q2,q2',q3,q3']
 have h2:ZuB r m s k p=true:=by simp only[ZuB,Zla,RT.val,a2,b2,Yb];cases (decide (ZcZ (ZS u8 r m) k>=0)&&(decide (ZcZ (Zcf m s p) k<0)||decide (ZcG (ZcZ (ZS u8 r m) k) k<ZcG (ZcZ (Zcf m s p) k) k)))<;>rfl
 refine⟨?_,h2,by simp only[ZDj,ZE9,h1]⟩;simp only[ZrV,h1];exact h2
theorem ZI2 (p:PICT):ZFQ p=vReq p:=by simp only[ZFQ,ZKt,vReq,ZVM,RT.val]
theorem ZO7 (p:PICT) (l:Int):Zzi p l=ZCb p l:=by simp only[Zzi,Zr3,ZCb,ZHZ,RT.val]
theorem ZKQ (p:PICT) (hs:inR .u8 p.2.2.2.2.2.2.2.2.2.2.2.2.2.2.1):Zi9 p=true/\ZqQ p=true/\ZaK p=vPck p:=by
 obtain⟨h1,h2,h3⟩:=ZDl (vReq p) p.2.2.2.2.2.2.2.2.2.2.2.2.2.2.2.1 p.2.2.2.2.2.2.2.2.2.2.2.2.2.2.1 p.2.2.2.2.2.2.2.2.2.2.2.2.2.2.2.2.1 p.2.2.2.2.2.2.2.2.2.1 hs;have e1:(ZmA p).val=some (ZE9 (vReq p) p.2.2.2.2.2.2.2.2.2.2.2.2.2.2.2.1 p.2.2.2.2.2.2.2.2.2.2.2.2.2.2.1 p.2.2.2.2.2.2.2.2.2.2.2.2.2.2.2.2.1 p.2.2.2.2.2.2.2.2.2.1):=by simp only[ZmA,RT.val,ZI2,h1,h3,Yb]
 have e2:(ZFa p).val=some (ZE9 (vReq p) p.2.2.2.2.2.2.2.2.2.2.2.2.2.2.2.1 p.2.2.2.2.2.2.2.2.2.2.2.2.2.2.1 p.2.2.2.2.2.2.2.2.2.2.2.2.2.2.2.2.1 p.2.2.2.2.2.2.2.2.2.1):=by simp only[ZFa,RT.val,h2,Yb]
 exact⟨by simp only[Zi9,e1,okB],by simp only[ZqQ,e2,okB],by simp only[ZaK,vPck,e1,e2]⟩
theorem ZSJ (p:PICT) (hs:inR .u8 p.2.2.2.2.2.2.2.2.2.2.2.2.2.2.1):ZKA p=true/\ZVR p=true/\ZT4 p=vInt p:=by
 obtain⟨h1,h2,h3⟩:=ZDl (vReq p) p.2.2.2.2.2.2.2.2.2.2.2.2.2.2.2.1 p.2.2.2.2.2.2.2.2.2.2.2.2.2.2.1 p.2.2.2.2.2.2.2.2.2.2.2.2.2.2.2.2.1 p.2.2.2.2.2.2.2.2.2.1 hs;obtain⟨g1,g2,g3⟩:=ZKQ p hs;have e2:(ZOF p).val=some (decide (vPck p>=0)):=by simp only[ZOF,RT.val,g2,Yb]
 have e1:(ZvH p).val=some (decide (vPck p>=0)):=by simp only[ZvH,RT.val,g1,g3,ZI2,h1,h3,Yb]
 exact⟨by simp only[ZKA,e1,okB],by simp only[ZVR,e2,okB],by simp only[ZT4,vInt,e1,e2]⟩
theorem ZNU (d):ZRb d=Zgj d:=by simp only[ZRb,ZNY,Zgj,Zuz,RT.val]
theorem ZNT (d:QT4) (r v:Int):ZBH d r v=ZqN d r v:=by
 obtain⟨h0,h3⟩:=and3 r;simp only[ZBH,Zt9,ZqN,ZB6,RT.val];generalize andI .i64 r 3=q at*;have:q=0\/q=1\/q=2\/q=3:=by omega
 rcases this with rfl|rfl|rfl|rfl<;>simp
theorem ZVx (d):ZVy d=ZhB d:=by simp only[ZVy,ZNW,ZhB,Zpk,RT.val,ZNU]
theorem ZQ7 (d:QT4) (r:Int):ZHX d r=true/\ZEV d r=ZB9 d r:=by
 obtain⟨h0,h3⟩:=and3 r;have hv:(ZqP d r).val=some (ZEV d r):=by
  simp only[ZqP,ZEV,ZBN,RT.val];generalize andI .i64 r 3=q at*;have:q=0\/q=1\/q=2\/q=3:=by omega
  rcases this with rfl|rfl|rfl|rfl<;>simp[iN]
 exact⟨by simp only[ZHX,hv,okB],by simp only[ZB9,hv,getO]⟩
theorem ZOR (p:PICT) (x:Int):ZrZ p x=Zuy p x:=rfl
theorem ZIB (p:PICT) (x:Int):Zp3 p x=ZE8 p x/\Zi8 p x=ZgS p x:=by simp only[Zp3,ZE8,Zi8,ZgS,ZOR];exact⟨trivial,Tv⟩
theorem ZVt (p:PICT) (x:Int):ZDq p x=ZCd p x:=rfl
theorem ZSN (p:PICT) (x:Int):ZFT p x=ZH0 p x/\Zp4 p x=ZhD p x:=by simp only[ZFT,ZH0,Zp4,ZhD,ZVt];exact⟨trivial,Tv⟩
theorem ZVC (p:PICT) (v:Int):ZDt p v=ZqS p v:=by simp only[ZDt,Zzl,ZqS,ZuE,RT.val];cases p.2.2.2.1<;>rfl
theorem ZRD (p:PICT) (x:Int):Zp3 p x=ZE8 p x:=(ZIB p x).1
theorem ZRC (p:PICT) (x:Int):Zi8 p x=ZgS p x:=(ZIB p x).2
theorem ZXl (p:PICT) (x:Int):ZFT p x=ZH0 p x:=(ZSN p x).1
theorem ZXk (p:PICT) (x:Int):Zp4 p x=ZhD p x:=(ZSN p x).2
theorem ZVI (p:PICT) (hs:inR .u8 p.2.2.2.2.2.2.2.2.2.2.2.2.2.2.1):(ZvJ p).val=(ZH1 p).val:=by
 obtain⟨g1,g2,g3⟩:=ZKQ p hs;have hd:decide (vPck p>=0)= !decide (vPck p<0):=by
  by_cases h:vPck p<0
  ·have:¬vPck p>=0:=by omega
   simp[h,this]
  ·have:vPck p>=0:=by omega
   simp[h,this]
 simp only[ZvJ,ZH1,RT.val,g1,g2,g3,ZRD,ZRC,ZXl,ZXk,hd];cases h:decide (vPck p<0)
 ·have h0:decide (0<=vPck p)=true:=by simp at h|-;omega
  simp only[ZE8,ZgS,Zuy,RT.val,h0,getO,okB,Yg,Yq,Yb,Ye,YB,Yj]
 ·simp only[Yg,Yq,Yb,Ye,YB,Yj]
theorem ZSZ (p:PICT) (hs:inR .u8 p.2.2.2.2.2.2.2.2.2.2.2.2.2.2.1):ZT5 p=vAck p/\ZKH p=ZOG p:=by simp only[ZT5,vAck,ZKH,ZOG,ZVI p hs];exact⟨trivial,Tv⟩
theorem ZXb (x:Int):decide (x>=0)= !decide (x<0):=by by_cases h:x<0<;>simp[h]<;>omega
theorem ZXc (x:Int):decide (0<=x)= !decide (x<0):=by by_cases h:x<0<;>simp[h]<;>omega
theorem ZQu (p:PICT) (v:Int) (hs:inR .u8 p.2.2.2.2.2.2.2.2.2.2.2.2.2.2.1):(ZvI p v).val=(ZuC p v).val:=by
 have eb:(bif p.2.2.2.2.2.2.2.2.2.1 then ZS u8 p.2.2.2.2.2.2.2.2.2.2.2.2.2.2.1 p.2.2.2.2.2.2.2.2.2.2.2.2.2.2.2.1 else p.2.2.2.2.2.2.2.2.2.2.2.2.2.2.1)=Zcf p.2.2.2.2.2.2.2.2.2.2.2.2.2.2.2.1 p.2.2.2.2.2.2.2.2.2.2.2.2.2.2.1 p.2.2.2.2.2.2.2.2.2.1:=by cases p.2.2.2.2.2.2.2.2.2.1<;>simp[Zcf,Zld,RT.val]
 have hb:inR .u8 (Zcf p.2.2.2.2.2.2.2.2.2.2.2.2.2.2.2.1 p.2.2.2.2.2.2.2.2.2.2.2.2.2.2.1 p.2.2.2.2.2.2.2.2.2.1):=by
  rw[<-eb];cases p.2.2.2.2.2.2.2.2.2.1
  ·exact hs
  ·exact Zan _ _
 obtain⟨h1,h2,h3⟩:=ZBy _ p.2.2.2.2.2.2.2.2.2.2.2.2.2.2.2.2.1 hb;have h4:decide (0<=IntKind.wrap .i64 (andI .u8 v 7))=true:=by have:=ZXq v;rw[wrap_i64 _ (by omega) (by omega)];exact YQ this.1
 simp only[ZvI,ZuC,RT.val,eb,h1,h2,h3,h4,ZXb,ZXc,ZdO,Zcm,Yk,Yg,Bool.or_self,Bool.not_not,YJ,Yj,Yb,Ye];generalize shrI u8 v 5=w;generalize ZcZ _ _=t;by_cases w0:w=0
 ·subst w0;rfl
 by_cases w1:w=1
 ·subst w1;cases decide (t<0)<;>rfl
 by_cases w3:w=3
 ·subst w3;rfl
 by_cases w4:w=4
 ·subst w4;rfl
 by_cases w5:w=5
 ·subst w5;cases decide (t<0)<;>rfl
 by_cases w6:w=6
 ·subst w6;rfl
 by_cases w7:w=7
 ·subst w7;rfl
 have e0:(w==0)=false:=by simpa using w0
 have e1:(w==1)=false:=by simpa using w1
 have e3:(w==3)=false:=by simpa using w3
 have e4:(w==4)=false:=by simpa using w4
 have e5:(w==5)=false:=by simpa using w5
 have e6:(w==6)=false:=by simpa using w6
 have e7:(w==7)=false:=by simpa using w7
 rw[e0,e1,e3,e4,e5,e6,e7];rfl
theorem ZUX (p:PICT) (v:Int) (hs:inR .u8 p.2.2.2.2.2.2.2.2.2.2.2.2.2.2.1):ZPE p v=ZTa p v/\ZDu p v=ZuD p v:=by simp only[ZPE,ZTa,ZDu,ZuD,ZQu p v hs];exact⟨trivial,Tv⟩
theorem ZHO (p:PICT) (h:Bool) (v:Int) (hs:inR .u8 p.2.2.2.2.2.2.2.2.2.2.2.2.2.2.1):(Zh6 p h v).val=(Zk9 p h v).val:=by obtain⟨h1,h2⟩:=ZUX p v hs;have hf:Zlc p v=(2,andI u8 v 8 !=0,andI u8 v 4 !=0,andI u8 v 2 !=0,andI u8 v 1 !=0,andI u8 v 224,0,false,false,false,false,false,p.2.2.2.2.2.2.2.2.2.2.2.2.1,0,0,0,7,0,0,false):=rfl;simp only[Zh6,Zk9,RT.val,h1,h2,hf,ZVC,Bool.or_comm (andI u8 v 4 !=0)]
theorem ZBY (p:PICT) (h:Bool) (v:Int) (hs:inR .u8 p.2.2.2.2.2.2.2.2.2.2.2.2.2.2.1):Zze p h v=ZB7 p h v/\ZrY p h v=ZqO p h v:=by simp only[Zze,ZB7,ZrY,ZqO,ZHO p h v hs];exact⟨trivial,Tv⟩
def ZqT (p:PICT):PICT:=(p.1,p.2.1,p.2.2.1,p.2.2.2.1,p.2.2.2.2.1,p.2.2.2.2.2.1,p.2.2.2.2.2.2.1,p.2.2.2.2.2.2.2.1,p.2.2.2.2.2.2.2.2.1,p.2.2.2.2.2.2.2.2.2.1,p.2.2.2.2.2.2.2.2.2.2.1,false,p.2.2.2.2.2.2.2.2.2.2.2.2)
theorem Zpl (p:PICT):vPck (ZqT p)=vPck p/\ZqQ (ZqT p)=ZqQ p:=⟨rfl,rfl⟩
theorem ZPz (x:Int) (h0: -1<=x) (h1:x<=7):IntKind.wrap .u8 (128+IntKind.wrap .u8 x)=IntKind.wrap .u8 (IntKind.wrap .i64 (128+x)):=by
 have:x= -1\/x=0\/x=1\/x=2\/x=3\/x=4\/x=5\/x=6\/x=7:=by omega
 rcases this with rfl|rfl|rfl|rfl|rfl|rfl|rfl|rfl|rfl<;>decide
theorem ZO5 (p:PICT) (h:Bool) (hs:inR .u8 p.2.2.2.2.2.2.2.2.2.2.2.2.2.2.1):(Zmv p h).val=(ZuA p h).val:=by obtain⟨g1,g2,g3⟩:=ZKQ (ZqT p) hs;rw[(Zpl p).1] at g3;rw[(Zpl p).2] at g2;obtain⟨_,a1,a2⟩:=ZxB p;have hx:(p.1,p.2.1,p.2.2.1,p.2.2.2.1,p.2.2.2.2.1,p.2.2.2.2.2.1,p.2.2.2.2.2.2.1,p.2.2.2.2.2.2.2.1,p.2.2.2.2.2.2.2.2.1,p.2.2.2.2.2.2.2.2.2.1,p.2.2.2.2.2.2.2.2.2.2.1,false,p.2.2.2.2.2.2.2.2.2.2.2.2)=ZqT p:=rfl;simp only[Zmv,ZuA,RT.val,hx,g1,g2,g3,ZRD,ZRC,ZXl,ZXk,ZI2,ZPz _ a1 a2,ZdO,Zcm,Yk,Yg,Yj]
theorem ZI5 (p:PICT) (h:Bool) (hs:inR .u8 p.2.2.2.2.2.2.2.2.2.2.2.2.2.2.1):ZKx p h=ZOD p h/\Zzg p h=ZCa p h:=by simp only[ZKx,ZOD,Zzg,ZCa,ZO5 p h hs];exact⟨trivial,Tv⟩
theorem ZjZ {p:PICT} (h:okHL Zr7 p):inR .u8 p.2.2.2.2.2.2.2.2.2.2.2.2.2.2.1:=h.2.2.2.2.2.2.2.2.2.2.2.2.2.2.1
def Zzj:En:=Zg Zr7 Zr8 (λ_=>none) (λa=>vInt a)
theorem ZKB:Za prog 199 Zzj:=ZPC.tot (λa h=>by have:=(ZSJ a (ZjZ h)).1;simp[this]) (λa h=>(ZSJ a (ZjZ h)).2.2)
def Zmy:En:=Zg Zmw Zmx (λ_=>none) (λa=>ZCb a.1 a.2)
theorem Zzh:Za prog 198 Zmy:=ZFS.tot (λa h=>by simp) (λa h=>ZO7 _ _)
def Zmu:En:=Zg Zmt Zh7 (λ_=>none) (λa=>ZB7 a.1 a.2.1 a.2.2)
theorem Zzd:Za prog 207 Zmu:=ZFP.tot (λa h=>by have h1:=(ZBY a.1 a.2.1 a.2.2 (ZjZ h.1)).2;have h2:=ZHW a.1 a.2.1 a.2.2;rw[h2] at h1;simp[h1]) (λa h=>(ZBY a.1 a.2.1 a.2.2 (ZjZ h.1)).1)
def Zr2:En:=Zg Zr1 ZkE (λ_=>none) (λa=>ZOD a.1 a.2)
theorem ZFR:Za prog 205 Zr2:=ZKw.tot (λa h=>by have h1:=(ZI5 a.1 a.2 (ZjZ h.1)).2;have h2:=ZOB a.1 a.2;rw[h2] at h1;simp[h1]) (λa h=>(ZI5 a.1 a.2 (ZjZ h.1)).1)
def Zzo:En:=Zg Zzn Zr9 (λ_=>none) (λa=>vAck a)
theorem ZKI:Za prog 203 Zzo:=ZPF.tot (λa h=>by have h1:=(ZSZ a (ZjZ h)).2;have h2:=ZTh a;rw[h2] at h1;simp[h1]) (λa h=>(ZSZ a (ZjZ h)).1)
def ZoQ:En:=Zg ZBL ZBM (λ_=>none) (λa=>Zgj a)
theorem Zxj:Za prog 141 ZoQ:=ZEU.tot (λa h=>by simp) (λa h=>ZNU _)
def Zuc:En:=Zg Zua Zub (λ_=>none) (λa=>ZB9 a.1 a.2)
theorem ZHE:Za prog 206 Zuc:=ZNZ.tot (λa h=>by simp) (λa h=>(ZQ7 _ _).2)
def ZoP:En:=Zg ZoN ZoO (λ_=>none) (λa=>ZqN a.1 a.2.1 a.2.2)
theorem ZBG:Za prog 208 ZoP:=ZHD.tot (λa h=>by simp) (λa h=>ZNT _ _ _)
def ZBK:En:=Zg ZBI ZBJ (λ_=>none) (λa=>ZhB a)
theorem ZNX:Za prog 142 ZBK:=ZRa.tot (λa h=>by simp) (λa h=>ZVx _)
def Zk1:En:=Zg [.one (.sl (R.Pq (R.int u16) (R.int u8)))] (.one (.one (.sl (R.Pq (R.int u16) (R.int u8))))) (λl=>some (Nat.ble l.length most)) (λl=>l)
theorem ZqD:Za prog 98 Zk1:=
 ZQv (P:=prog) (n:=15) (k:=8) (l:=[]) (ol:=[]) trivial Tryz.func98 rfl (by kernel_rfl) Tryz.call98 trivial (r:=R.Pq (R.int u16) (R.int u8)) (rs:=.one (.one (.sl (R.Pq (R.int u16) (R.int u8))))) (pre:=λl=>Nat.ble l.length most) (F:=λl=>l) (by kernel_rfl)
  (λl h=>by
   have e:(evOf (envX prog [] [] 15 8) Tryz.f98 (.one (.one (.sl (R.Pq (R.int u16) (R.int u8))))) [.w (.one (.lst (R.Pq (R.int u16) (R.int u8)) false false true l))]).val=cond (Nat.ble ([]++l).length most) (some ([]++l)) none:=by kernel_rfl
   rw[e,List.nil_append,h];rfl)
abbrev Zxp:List Sh:=[Sh.agg (R.Pq (R.int i64) (R.Pq rcRG (R.Pq (R.int i64) (R.Pq (R.int u8) (R.Pq (R.int u8) (R.Pq R.bool rcCE))))))]
abbrev ZoX:Rs:=Rs.one (Sh.one (R.int i64))
def ZiH (b:BRDT):RT (Option (Int)):=
 .br (b.1 !=1&&b.1 !=2) (.Lf (some (1))) (.br (smG b.2.1) (.br (Zbz b.2.1 !=0) (.Lf (some (Zbz b.2.1))) (.br (decide (b.2.2.1<0)||(decide (b.2.2.1>100)||smC b.2.2.2.2.2.2)) (.br (decide (b.2.2.1<0)||(decide (b.2.2.1>100)|| !vldB b.2.2.2.2.2.2)) (.Lf (some (1))) (.Lf (some (0)))) (.Lf none))) (.Lf none))
def Zce (b:BRDT):Int:=getO ZoX.Df (ZiH b).val
def Za6 (b:BRDT):Bool:=okB (ZiH b).val
def ZiI:En:=Zg Zxp ZoX (λa=>some (Za6 a)) (λa=>Zce a)
theorem ZjM:Za Tryz.prog 50 ZiI:=
 pureP 15 [(102,ZvR),(103,ZEr)] [] Zxp ZoX ⟨Zzy,ZHi,Tv⟩ Tryz.func50 Tryz.call50 trivial (t:=λa=>ZiH a)
abbrev ZOm:List Sh:=[Sh.agg (R.Pq (R.int i64) (R.Pq rcRG (R.Pq (R.int i64) (R.Pq (R.int u8) (R.Pq (R.int u8) (R.Pq R.bool rcCE))))))]
abbrev ZBV:Rs:=Rs.tup [Sh.agg (R.Pq (R.Pq Z5 (R.Pq (R.int i64) (R.Pq (R.sl (R.int u8)) (R.Pq (RY) (R.Pq (R.int i64) R.bool))))) (R.Pq rcCE (R.Pq Zbd (R.Pq (R.Pq (R.int u16) (R.Pq (R.int u8) (R.int i64))) (R.Pq (R.int i64) (R.sl (R.Pq (R.int u8) (R.int u8)))))))),Sh.one (R.int i64)]
def ZqF (b:BRDT):RT (Option (SYST×Int)):=
 let x1:TR:=(0,0,0,0,0,0,0,(false,false,false,false,false,false,false),0,0)
 .br (Za6 b) (.br (Zce b !=0) (.Lf (some (((((0,x1,false,false,false,0,false,false,false,false,false,false,false),0,[],(0,0,0,0),0,false),[],(0,false,false,false,false,0,0,false,false,false,false,false,0,0,0,0,0,0,0,false),(0,0,0),0,[]),Zce b)))) (.br (Nat.ble (List.length b.2.2.2.2.2.2) most) (.Lf (some ((((((newX b.1).1.1,x1,false,false,false,(newX b.1).1.2.2.2.2.2.1,false,false,false,false,false,false,false),0,[],(1,0,0,4),1,false),b.2.2.2.2.2.2,(0,false,false,false,false,0,0,false,false,false,false,false,0,0,0,0,7,0,0,false),(0,0,0),0,[]),0)))) (.Lf none))) (.Lf none)
def Zkl (b:BRDT):SYST×Int:=getO ZBV.Df (ZqF b).val
def ZcE (b:BRDT):Bool:=okB (ZqF b).val
def ZSW:En:=Zg ZOm ZBV (λa=>some (ZcE a)) (λa=>Zkl a)
theorem ZRl:Za Tryz.prog 48 ZSW:=
 pureP 31 [(50,ZiI),(97,ZDM),(98,Zk1),(99,ZvG)] [] ZOm ZBV ⟨ZjM,ZDL,ZqD,Zr6,Tv⟩ Tryz.func48 Tryz.call48 trivial (t:=λa=>ZqF a)
theorem ZOi (b:BRDT):(ZiH b).val=(ZfC b).val:=by simp only[ZiH,ZfC,RT.val]
theorem ZHF (b:BRDT):Zce b=Zbf b/\Za6 b=Zcj b:=by simp only[Zce,Zbf,Za6,Zcj,ZOi];exact⟨trivial,Tv⟩
def inpX (a b c k:Int):INPT:=bif k !=ZgR a b c then ZG else
 (andI u8 a 1==0,andI u8 a 2 !=0,andI u8 a 4 !=0,andI u8 a 8 !=0,andI u8 a 16 !=0,andI u8 a 32 !=0,andI u8 a 64 !=0,andI u8 a 128 !=0,b,c)
def decX:List Int->List INPT
 |a::b::c::k::l=>inpX a b c k::decX l
 |_=>[]
theorem drop4 (l:List Int) (i:Nat) (h:i+4<=l.length):l.drop i=R.get (R.int .u8) l (i:Int)::R.get (R.int .u8) l ((i+1:Nat):Int)::R.get (R.int .u8) l ((i+2:Nat):Int)::R.get (R.int .u8) l ((i+3:Nat):Int)::l.drop (i+4):=by
 have hg:∀j:Nat,(hj:j<l.length)->R.get (R.int .u8) l (j:Int)=l[j]:=λj hj=>by simp[R.get,hj]
 rw[Y4 (by omega:i<l.length),Y4 (by omega:i+1<l.length),Y4 (by omega:i+1+1<l.length),Y4 (by omega:i+1+1+1<l.length)];rw[hg i (by omega),hg (i+1) (by omega),hg (i+2) (by omega),hg (i+3) (by omega)]
variable {l:List Int}
theorem ZN0 (h:l.length<4):decX l=[]:=by
 match l with
 |[]=>rfl
 |[_]=>rfl
 |[_,_]=>rfl
 |[_,_,_]=>rfl
 |_::_::_::_::_=>simp at h;omega
theorem dec_len:∀l:List Int,(decX l).length=l.length/4
 |a::b::c::k::l=>by have:=dec_len l;simp only[decX,List.length_cons,this];omega
 |[]=>by simp[decX]
 |[_]=>by simp[decX]
 |[_,_]=>by simp[decX]
 |[_,_,_]=>by simp[decX]
abbrev Zu0:List Sh:=[Sh.one (R.int u8),Sh.one (R.int u8),Sh.one (R.int u8)]
abbrev Zu1:Rs:=Rs.one (Sh.one (R.int u8))
def ZCv (a:Int) (b:Int) (c:Int):RT (Int):=
 .Lf (xorI u8 (xorI u8 (xorI u8 a b) c) 165)
def ZxV (a:Int) (b:Int) (c:Int):Int:=(ZCv a b c).val
def Zrd:En:=Zg Zu0 Zu1 (λ_=>none) (λa=>ZxV a.1 a.2.1 a.2.2)
theorem ZpC:Za prog 128 Zrd:=
 pureQ 127 [] [] Zu0 Zu1 trivial Tryz.func128 Tryz.call128 trivial (t:=λa=>ZCv a.1 a.2.1 a.2.2)
abbrev ZCt:List Sh:=[]
abbrev ZCu:Rs:=Rs.one (Sh.agg Zfv)
def ZIG:RT INPT:=
 .Lf ((true,false,false,false,false,false,false,false,0,0))
def Zfq:INPT:=(ZIG).val
def ZxS:En:=Zg ZCt ZCu (λ_=>none) (λa=>Zfq)
theorem ZuZ:Za prog 86 ZxS:=
 pureQ 1 [] [] ZCt ZCu trivial Tryz.func86 Tryz.call86 trivial (t:=λa=>ZIG)
def Zev:En:=.tree (Zn (envX prog [] [] 15 8) Tryz.f190)
theorem Zhe:Za prog 190 Zev:=ZI (P:=prog) (n:=15) (k:=8) (l:=[]) (ol:=[]) trivial Tryz.func190 rfl (by kernel_rfl) Tryz.call190 trivial
abbrev ZuX:List Sh:=[Sh.one (R.int u8)]
abbrev ZuY:Rs:=Rs.one (Sh.agg Zfv)
def ZCs (c:Int):RT INPT:=
 .Lf ((!andI u8 (shrI u8 c 0) 1==1,andI u8 (shrI u8 c 1) 1==1,andI u8 (shrI u8 c 2) 1==1,andI u8 (shrI u8 c 3) 1==1,andI u8 (shrI u8 c 4) 1==1,andI u8 (shrI u8 c 5) 1==1,andI u8 (shrI u8 c 6) 1==1,andI u8 (shrI u8 c 7) 1==1,0,0))
def Zap (c:Int):INPT:=(ZCs c).val
def Zra:En:=Zg ZuX ZuY (λ_=>none) (λa=>Zap a)
theorem ZpA:Za prog 129 Zra:=
 pureQ 15 [(190,Zev)] [] ZuX ZuY ⟨Zhe,Tv⟩ Tryz.func129 Tryz.call129 trivial (t:=λa=>ZCs a)
abbrev Zgr:List Sh:=[Sh.one (R.sl (R.int u8))]
abbrev Zgs:Rs:=Rs.one (Sh.one (R.sl Zfv))
def ZxU:LS:={n:=44,Sl:=[(0,.code (Sh.one (R.sl (R.int u8)))),(3,.tip 0)],Bx:=[],Sg:=[⟨Zfv,122,true⟩]}
def Zca (a:List Int×List INPT×PUnit):RT (Option (Go1 (List Int×List INPT×PUnit))):=
 let x1:=decide (0<=4)&&decide (4<=iN (List.length a.1))&&(decide (iN (List.length a.1)=0)||decide (iN (List.length a.1)<=iN (List.length a.1)))
 let x2:=ZxV (R.get (R.int u8) a.1 0) (R.get (R.int u8) a.1 (iN (0+1))) (R.get (R.int u8) a.1 (iN (0+1+1)))==R.get (R.int u8) a.1 (iN (0+1+1+1))
 let x3:List INPT:=a.2.1++[(bif x2 then (Zap (R.get (R.int u8) a.1 0)).1 else Zfq.1,bif x2 then (Zap (R.get (R.int u8) a.1 0)).2.1 else Zfq.2.1,bif x2 then (Zap (R.get (R.int u8) a.1 0)).2.2.1 else Zfq.2.2.1,bif x2 then (Zap (R.get (R.int u8) a.1 0)).2.2.2.1 else Zfq.2.2.2.1,bif x2 then (Zap (R.get (R.int u8) a.1 0)).2.2.2.2.1 else Zfq.2.2.2.2.1,bif x2 then (Zap (R.get (R.int u8) a.1 0)).2.2.2.2.2.1 else Zfq.2.2.2.2.2.1,bif x2 then (Zap (R.get (R.int u8) a.1 0)).2.2.2.2.2.2.1 else Zfq.2.2.2.2.2.2.1,bif x2 then (Zap (R.get (R.int u8) a.1 0)).2.2.2.2.2.2.2.1 else Zfq.2.2.2.2.2.2.2.1,bif x2 then R.get (R.int u8) a.1 (iN (0+1)) else Zfq.2.2.2.2.2.2.2.2.1,bif x2 then R.get (R.int u8) a.1 (iN (0+1+1)) else Zfq.2.2.2.2.2.2.2.2.2)]
 .br (decide (iN (List.length a.1)>=4)&&decide (iN (List.length a.2.1)<65536)) (.br (!Nat.ble 4 (List.length a.1)||(!x1||Nat.ble (List.length x3) most)) (.br (!Nat.ble 4 (List.length a.1)||x1) (.br (Nat.ble 4 (List.length a.1)) (.Lf (some (Go1.cont (subL a.1 4 (iN (List.length a.1)),x3,PUnit.unit)))) (.Lf none)) (.Lf none)) (.Lf none)) (.Lf (some (Go1.brk (a.1,a.2.1,PUnit.unit))))
def Zlr:Ora:=Zbo false ZxU Zca (λa=>1000000000000)
theorem Zrb:Za3 (envX prog [(86,ZxS),(128,Zrd),(129,Zra)] [] 63 8) (.block 0 (.loop (Z2 Tryz.f74.body 0))) Zlr:=
 loopP ⟨ZuZ,ZpC,ZpA,Tv⟩
def ZfM (l:List Int):RT (Option (List INPT)):=
 .br (okB (runF false Zca (λa=>1000000000000) (l,[],()))) (.Lf (some (getO (false,l,[],()) (runF false Zca (λa=>1000000000000) (l,[],()))).2.2.1)) (.Lf none)
def Zrc (l:List Int):List INPT:=getO Zgs.Df (ZfM l).val
def Zls (l:List Int):Bool:=okB (ZfM l).val
def ZIH:En:=Zg Zgr Zgs (λa=>some (Zls a)) (λa=>Zrc a)
theorem ZxT:Za prog 74 ZIH:=
 pureP 63 [(86,ZxS),(128,Zrd),(129,Zra)] [(0,Zlr)] Zgr Zgs ⟨ZuZ,ZpC,ZpA,Tv⟩ Tryz.func74 Tryz.call74 ⟨Zrb,Tv⟩ (t:=λa=>ZfM a)
theorem ZNu:(List.range 256).all (λc=>(List.all [(Zap (c:Int)).1==(andI u8 (c:Int) 1==0),(Zap (c:Int)).2.1==(andI u8 (c:Int) 2 !=0),(Zap (c:Int)).2.2.1==(andI u8 (c:Int) 4 !=0),(Zap (c:Int)).2.2.2.1==(andI u8 (c:Int) 8 !=0),
  (Zap (c:Int)).2.2.2.2.1==(andI u8 (c:Int) 16 !=0),(Zap (c:Int)).2.2.2.2.2.1==(andI u8 (c:Int) 32 !=0),(Zap (c:Int)).2.2.2.2.2.2.1==(andI u8 (c:Int) 64 !=0),(Zap (c:Int)).2.2.2.2.2.2.2.1==(andI u8 (c:Int) 128 !=0)] id))=true:=by kernel_rfl
theorem ZQS {c:Int} (h:inR .u8 c):(Zap c).1=(andI u8 c 1==0)/\(Zap c).2.1=(andI u8 c 2 !=0)/\(Zap c).2.2.1=(andI u8 c 4 !=0)/\(Zap c).2.2.2.1=(andI u8 c 8 !=0)/\
  (Zap c).2.2.2.2.1=(andI u8 c 16 !=0)/\(Zap c).2.2.2.2.2.1=(andI u8 c 32 !=0)/\(Zap c).2.2.2.2.2.2.1=(andI u8 c 64 !=0)/\(Zap c).2.2.2.2.2.2.2.1=(andI u8 c 128 !=0):=by rw[Ziu] at h;obtain⟨n,rfl⟩:∃n:Nat,c=(n:Int):=⟨c.toNat,by omega⟩;have:=YR.1 ZNu n (by simp;omega);simpa [List.all_cons] using this
theorem dec4 (l:List Int) (h:4<=l.length):l=R.get (R.int .u8) l 0::R.get (R.int .u8) l 1::R.get (R.int .u8) l 2::R.get (R.int .u8) l 3::l.drop 4:=by have:=drop4 l 0 (by omega);rw[List.drop_zero] at this;exact this
theorem ZVk (h:∀x∈l,inR .u8 x) (i:Int):inR .u8 (R.get (R.int .u8) l i):=by
 unfold R.get;rw[Yo];cases hq:l[i.toNat]? with
 |none=>exact⟨by decide,by decide⟩
 |some a=>exact h a (List.mem_of_getElem? hq)
theorem sub4 (l:List Int):subL l 4 (iN l.length)=l.drop 4:=by
 simp only[subL,iN];have e1:((4:Int).toNat)=4:=rfl;have e2:((l.length:Int)-4).toNat=l.length-4:=by omega
 first
  |(rw[e1,e2];exact YT (by simp))
  |(simp;exact YT (by simp))
theorem ZpB (l:List Int) (hl:l.length<=4000) (hin:∀x∈l,inR .u8 x):Zls l=true/\Zrc l=decX l:=by
 have hms:=mst;obtain⟨r,hr,h0,h1⟩:=ZO (fl:=false) (t:=Zca) (fuel:=λ_=>1000000000000)
  (λa=>∃(q:List Int) (o:List INPT),q.length+4*o.length=l.length/\(∀x∈q,inR .u8 x)/\o++decX q=decX l/\a=(q,o,()))
  (λa=>a.1.length) (λr=>r.1=false/\r.2.2.1=decX l)
  (by
   rintro a ⟨q,o,hq,hi,hd,rfl⟩;by_cases hlt:4<=q.length
   ·left;have d:(decide (iN q.length>=4)&&decide (iN o.length<65536))=true:=by simp only[iN,Ya,Yf];omega
    have d1:decide (iN o.length<65536)=true:=by simp only[iN,Yf];omega
    have b4:Nat.ble 4 q.length=true:=by rw[YF];exact hlt
    have d4:decide (4<=iN q.length)=true:=by simp only[iN,Yf];omega
    have d0:decide ((0:Int)<=4)=true:=rfl;have dl:decide (iN q.length<=iN q.length)=true:=by simp
    have hb:∀a:INPT,Nat.ble (o++[a]).length most=true:=λa=>Zft (by simp;omega)
    have i1:iN (0+1)=(1:Int):=rfl;have i2:iN (0+1+1)=(2:Int):=rfl;have i3:iN (0+1+1+1)=(3:Int):=rfl;have hin0:=ZVk hi 0;have hdr:q=R.get (R.int .u8) q 0::R.get (R.int .u8) q 1::R.get (R.int .u8) q 2::R.get (R.int .u8) q 3::q.drop 4:=dec4 q hlt;rw[hdr] at hd;have hck:∀a b c,ZxV a b c=ZgR a b c:=λa b c=>rfl
    obtain⟨q0,hq0⟩:∃q0,R.get (R.int .u8) q 0=q0:=⟨_,rfl⟩;obtain⟨q1,hq1⟩:∃q0,R.get (R.int .u8) q 1=q0:=⟨_,rfl⟩;obtain⟨q2,hq2⟩:∃q0,R.get (R.int .u8) q 2=q0:=⟨_,rfl⟩;obtain⟨q3,hq3⟩:∃q0,R.get (R.int .u8) q 3=q0:=⟨_,rfl⟩;rw[hq0,hq1,hq2,hq3] at hd;rw[hq0] at hin0;have hv:(Zca (q,o,())).val=some (Go1.cont (q.drop 4,o++[inpX q0 q1 q2 q3],())):=by
     obtain⟨e1,e2,e3,e4,e5,e6,e7,e8⟩:=ZQS hin0;simp only[Zca,RT.val,d,b4,d0,d4,dl,hb,i1,i2,i3,hq0,hq1,hq2,hq3,hck,sub4,e1,e2,e3,e4,e5,e6,e7,e8,ZdO,Zcm,Yk,Yg,Yj,YJ,Y6,YZ,Yb,Ye];have hcm:(q3==ZgR q0 q1 q2)=(ZgR q0 q1 q2==q3):=Bool.eq_iff_iff.2 ⟨λh=>YaB.2 (YaB.1 h).symm,λh=>YaB.2 (YaB.1 h).symm⟩;have hne:(q3 !=ZgR q0 q1 q2)= !(ZgR q0 q1 q2==q3):=by rw[bne,hcm]
     have hs:Zfq=ZG:=rfl;unfold inpX;rw[hne];generalize (ZgR q0 q1 q2==q3)=bb;cases bb
     ·simp only[d1,Yb,Ye,Yg,Yq,hs];rfl
     ·simp only[d1,Yb,Ye,Yg,Yq];rfl
    refine⟨_,hv,⟨q.drop 4,o++[inpX q0 q1 q2 q3],by simp;omega,λx hx=>hi x (Yan hx),?_,rfl⟩,by simp;omega⟩;rw[<-hd];simp only[decX,Yn,List.cons_append,List.nil_append]
   ·right;left;have d:(decide (iN q.length>=4)&&decide (iN o.length<65536))=false:=by simp only[iN,Yaj,Yac];left;omega
    refine⟨(q,o,()),by simp only[Zca,RT.val,d,Ye],rfl,?_⟩;rw[ZN0 (by omega),YW] at hd
    exact hd)
  (l,[],()) ⟨l,[],by simp,hin,by simp,rfl⟩ (by simp only;omega)
 obtain⟨r1,r2⟩:=r;simp only at h0 h1;subst h0;have hv:(ZfM l).val=some r2.2.1:=by simp only[ZfM,RT.val,hr,okB,getO,Yb]
 exact⟨by simp only[Zls,hv];rfl,by simp only[Zrc,hv,getO];exact h1⟩
theorem dec_in {a:List Int} (h:okHL Zgr a):∀x∈a,inR .u8 x:=h.2
def ZIZ (l:List Int):Bool:=Nat.ble l.length 4000
def ZiS:En:=Zg Zgr Zgs (λa=>some (ZIZ a)) (λa=>decX a)
theorem ZjS:Za Tryz.prog 74 ZiS:=ZxT.pure_congr
 (λa h hp=>by
  have hl:a.length<=4000:=by simpa [ZIZ] using hp
  have h1:=(ZpB a hl (dec_in h)).1
  simp[h1])
 (λa h hp=>by
  have hl:a.length<=4000:=by simpa [ZIZ] using hp
  exact (ZpB a hl (dec_in h)).2)
end
end Go.Proofs.YtpnjbfjomebppaaGreat
