import Derived.Test.YtghoimllhpjkjaaGreatS3D
import Derived.Test.YtghoimllhpjkjaaGreatProg
import Derived.Test.YtghoimllhpjkjaaGreatRunL
import Derived.Test.YtghoimllhpjkjaaGreatS3New
import Derived.Test.YtghoimllhpjkjaaGreatS3Stg
import Derived.Test.YtghoimllhpjkjaaGreatMakeOk5
open Go.Proofs.Tryz (prog)
open Go.IntKind (u8 u16 i64)
set_option linter.unusedSimpArgs false
open Go Go.S3 Go.Proofs
set_option linter.unusedVariables false
set_option maxRecDepth 100000
namespace Go.Proofs.YtghoimllhpjkjaaGreat
noncomputable section
abbrev ZsG:R:=R.pair (R.int u16) (R.int u8)
abbrev ZsH:Nat:=106
abbrev ZAn:List Sh:=[Sh.one rcCE,Sh.agg (R.pair (R.int u16) (R.int u8))]
def ZSV:LS:={n:=53,slots:=[(3,.fix (A.loc 0 0)),(5,.tip 0),(6,.code (Sh.one R.bool)),(9,.code (Sh.one rcCE)),(10,.code (Sh.one (R.int i64))),(11,.code (Sh.one (R.int i64)))],boxes:=[[.many (R.pair (R.int u16) (R.int u8))]],stgs:=[⟨(R.pair (R.int u16) (R.int u8)),106,false⟩]}
def ZFi (a:QT9):RT (Option (Go1 (QT9))):=
 let x1:Int×Int:=R.get (R.pair (R.int u16) (R.int u8)) a.2.1 a.2.2.2.1
 let x2:=x1.1
 let x3:= !a.1&&decide (x2>=a.2.2.2.2.1.1)
 let x4:List (Int×Int):=a.2.2.2.2.2.1++[a.2.2.2.2.1]
 let x5:= !x3||(!a.2.2.2.2.1.2 !=0||Nat.ble (List.length x4) most)
 let x6:=x2 !=a.2.2.2.2.1.1
 let x7:List (Int×Int):=bif x3 then bif a.2.2.2.2.1.2 !=0 then x4 else a.2.2.2.2.2.1 else a.2.2.2.2.2.1
 let x8:List (Int×Int):=x7++[x1]
 .br (decide (a.2.2.2.1<a.2.2.1)) (.br (!Zf a.2.2.2.1 (List.length a.2.1)||(!x5||(!x6||Nat.ble (List.length x8) most))) (.br (!Zf a.2.2.2.1 (List.length a.2.1)||x5) (.br (Zf a.2.2.2.1 (List.length a.2.1)) (.leaf (some (Go1.cont (x3||a.1,a.2.1,a.2.2.1,i64.wrap (a.2.2.2.1+1),a.2.2.2.2.1,bif x6 then x8 else x7,PUnit.unit)))) (.leaf none)) (.leaf none)) (.leaf none)) (.leaf (some (Go1.brk (a.1,a.2.1,a.2.2.1,a.2.2.2.1,a.2.2.2.2.1,a.2.2.2.2.2.1,PUnit.unit))))
def ZFj:Ora:=Zbm false ZSV ZFi (λa=>1000000000000)
theorem ZH0:Za1 (envX prog [] [] 511 8) (.block 0 (.loop (Zae Tryz.f149.body 0))) ZFj:=
 loopP trivial
def ZFh (m:List (Int×Int)) (c:Int×Int):RT (Option (List (Int×Int))):=
 let x1:QT9:=(false,m,iN (List.length m),0,c,[],())
 let x2:=runF false ZFi (λa=>1000000000000) x1
 let x3:QT9:=(getO (false,x1) x2).2
 let x4:=x3.2.2.2.2
 let x5:=x4.1
 let x6:= !x3.1&&x5.2 !=0
 let x7:=x4.2.1
 let x8:List (Int×Int):=x7++[x5]
 .br (okB x2) (.br (!x6||Nat.ble (List.length x8) most) (.leaf (some (bif x6 then x8 else x7))) (.leaf none)) (.leaf none)
def ZSW (m:List (Int×Int)) (c:Int×Int):List (Int×Int):=getO [] (ZFh m c).val
def ZFk (m:List (Int×Int)) (c:Int×Int):Bool:=okB (ZFh m c).val
def ZNq:Entry:=frzE (newE ZsG ZsH ZAn (λa=>some (ZFk a.1 a.2)) (λa=>ZSW a.1 a.2))
theorem ZNr:Za prog 149 (newE ZsG ZsH ZAn (λa=>some (ZFk a.1 a.2)) (λa=>ZSW a.1 a.2)):=
 Zlt (P:=prog) (n:=511) (k:=8) (l:=[]) (ol:=[(0,ZFj)]) trivial Tryz.func149 rfl (by kernel_rfl) Tryz.call149 ⟨ZH0,Tv⟩ (r:=ZsG) (T:=ZsH) (ts:=ZAn) (t:=λa=>ZFh a.1 a.2) (λa=>by kernel_rfl)
theorem ZFg:Za prog 149 ZNq:=ZyU ZNr
abbrev Zlh:R:=R.pair (R.int u16) (R.int u8)
abbrev Zli:Nat:=106
abbrev ZsO:List Sh:=[Sh.one rcCE]
def ZNL:LS:={n:=21,slots:=[(3,.tip 0),(10,.code (Sh.one rcCE)),(11,.code (Sh.one (R.int i64))),(12,.code (Sh.one (R.int i64)))],boxes:=[],stgs:=[⟨(R.pair (R.int u16) (R.int u8)),106,false⟩]}
def Zgg (a:List (Int×Int)×Int×Int×List (Int×Int)×PUnit):RT (Option (Go1 (List (Int×Int)×Int×Int×List (Int×Int)×PUnit))):=
 .br (decide (a.2.2.1<a.2.1)) (.br (!Zf a.2.2.1 (List.length a.1)||ZFk a.2.2.2.1 (R.get (R.pair (R.int u16) (R.int u8)) a.1 a.2.2.1)) (.br (Zf a.2.2.1 (List.length a.1)) (.leaf (some (Go1.cont (a.1,a.2.1,i64.wrap (a.2.2.1+1),Stg.l (newG ZsG ZsH (ZSW a.2.2.2.1 (R.get (R.pair (R.int u16) (R.int u8)) a.1 a.2.2.1))),PUnit.unit)))) (.leaf none)) (.leaf none)) (.leaf (some (Go1.brk (a.1,a.2.1,a.2.2.1,a.2.2.2.1,PUnit.unit))))
def Zxp:Ora:=Zbm false ZNL Zgg (λa=>1000000000000)
theorem ZAw:Za1 (envX prog [(44,Zla),(149,ZNq)] [] 63 8) (.block 0 (.loop (Zae Tryz.f92.body 0))) Zxp:=
 loopP ⟨ZjB,ZFg,Tv⟩
def ZjE (l:List (Int×Int)):RT (Option (List (Int×Int))):=
 let x1:=runF false Zgg (λa=>1000000000000) (l,iN (List.length l),0,[],())
 .br (smC l) (.br (!vldB l||Nat.ble (List.length ([]++l)) most) (.br (vldB l) (.leaf (some ([]++l))) (.br (okB x1) (.leaf (some (getO (false,l,iN (List.length l),0,[],()) x1).2.2.2.2.1)) (.leaf none))) (.leaf none)) (.leaf none)
def Zxq (l:List (Int×Int)):List (Int×Int):=getO [] (ZjE l).val
def ZmA (l:List (Int×Int)):Bool:=okB (ZjE l).val
def ZAx:Entry:=frzE (newE Zlh Zli ZsO (λa=>some (ZmA a)) (λa=>Zxq a))
theorem ZH3:Za prog 92 (newE Zlh Zli ZsO (λa=>some (ZmA a)) (λa=>Zxq a)):=
 Zlt (P:=prog) (n:=63) (k:=8) (l:=[(44,Zla),(149,ZNq)]) (ol:=[(0,Zxp)]) ⟨ZjB,ZFg,Tv⟩ Tryz.func92 rfl (by kernel_rfl) Tryz.call92 ⟨ZAw,Tv⟩ (r:=Zlh) (T:=Zli) (ts:=ZsO) (t:=λa=>ZjE a) (λa=>by kernel_rfl)
theorem Zxo:Za prog 92 ZAx:=ZyU ZH3
abbrev ZgW:R:=R.pair (R.int u16) (R.int u8)
abbrev ZgX:Nat:=106
abbrev Zs0:List Sh:=[Sh.one (R.int u16),Sh.one (R.sl (R.int u8))]
def ZNR:LS:={n:=27,slots:=[(0,.code (Sh.one (R.int u16))),(1,.code (Sh.one (R.sl (R.int u8)))),(5,.tip 0),(8,.code (Sh.one (R.int i64))),(9,.code (Sh.one (R.int i64)))],boxes:=[],stgs:=[⟨(R.pair (R.int u16) (R.int u8)),106,true⟩]}
def Zgh (a:QT28):RT (Option (Go1 (QT28))):=
 let x1:List (Int×Int):=a.2.2.2.2.1++[(u16.wrap (a.1+u16.wrap a.2.2.2.1),R.get (R.int u8) a.2.1 a.2.2.2.1)]
 let x2:= !Zf a.2.2.2.1 (List.length a.2.1)||Nat.ble (List.length x1) most
 .br (decide (a.2.2.2.1<a.2.2.1)) (.br (!x2||Zf a.2.2.2.1 (List.length a.2.1)) (.br (x2) (.leaf (some (Go1.cont (a.1,a.2.1,a.2.2.1,i64.wrap (a.2.2.2.1+1),x1,PUnit.unit)))) (.leaf none)) (.leaf none)) (.leaf (some (Go1.brk (a.1,a.2.1,a.2.2.1,a.2.2.2.1,a.2.2.2.2.1,PUnit.unit))))
def Zxr:Ora:=Zbm false ZNR Zgh (λa=>1000000000000)
theorem ZBa:Za1 (envX prog [(92,ZAx)] [] 127 8) (.block 0 (.loop (Zae Tryz.f32.body 0))) Zxr:=
 loopP ⟨Zxo,Tv⟩
def Znf (t:Int) (b:List Int):RT (Option (List (Int×Int))):=
 let x1:=runF false Zgh (λa=>1000000000000) (t,b,iN (List.length b),0,[],())
 let x2:List (Int×Int):=(getO (false,t,b,iN (List.length b),0,[],()) x1).2.2.2.2.2.1
 .br (okB x1) (.br (ZmA x2) (.leaf (some (Stg.l (newG Zlh Zli (Zxq x2))))) (.leaf none)) (.leaf none)
def ZNS (t:Int) (b:List Int):List (Int×Int):=getO [] (Znf t b).val
def ZBb (t:Int) (b:List Int):Bool:=okB (Znf t b).val
theorem ZIg:Za prog 32 (newE ZgW ZgX Zs0 (λa=>some (ZBb a.1 a.2)) (λa=>ZNS a.1 a.2)):=
 Zlt (P:=prog) (n:=127) (k:=8) (l:=[(92,ZAx)]) (ol:=[(0,Zxr)]) ⟨Zxo,Tv⟩ Tryz.func32 rfl (by kernel_rfl) Tryz.call32 ⟨ZBa,Tv⟩ (r:=ZgW) (T:=ZgX) (ts:=Zs0) (t:=λa=>Znf a.1 a.2) (λa=>by kernel_rfl)
end
end Go.Proofs.YtghoimllhpjkjaaGreat
open Go Go.S3 Go.Proofs Go.Proofs.Cells
namespace Go.Proofs.YtghoimllhpjkjaaGreat
noncomputable section
theorem ZMV (m:List Cell) (c:Cell) (hv:Vld m) (hm:m.length+1<=most):ZFk m c=true/\ZSW m c=putX m c:=by
 have h:=Zmf m c hv hm
 have e:ZFh m c=ZqL m c:=rfl
 simp only[ZqM,ZH2,<-e] at h
 exact h
theorem ZHM (l:List Cell) (hl:l.length+1<=most):ZmA l=true/\Zxq l=normX l:=by
 have hms:=mst
 have hs:smC l=true:=(Zqq.2 hl:sm l=true)
 have hv:(ZjE l).val=some (normX l):=by
  cases hb:vldB l with
  |true=>
   have e:Nat.ble l.length most=true:=by rw[Nat.ble_eq];omega
   simp only[ZjE,RT.val,hs,hb,List.nil_append,e,cond_true,Bool.not_true,Bool.false_or,ZjS (Zk1.1 hb)]
  |false=>
   obtain⟨r,hr,h1,i,hR⟩:=ZN (fl:=false) (t:=Zgg) (fuel:=λa=>1000000000000)
    (λa=>∃i:Nat,i<=l.length/\a=(l,(l.length:Int),(i:Int),normX (l.take i),()))
    (λa=>Int.toNat (a.2.1-a.2.2.1)) (λr=>r.1=false/\∃i:Nat,r.2=(l,(l.length:Int),(i:Int),normX l,()))
    (by
     rintro a ⟨i,hi,rfl⟩
     by_cases hlt:i<l.length
     ·left
      have d:decide ((i:Int)<(l.length:Int))=true:=by simpa using hlt
      have r1:=ZaG l i hlt
      have hlen:=Zcl (l.take i)
      rw[List.length_take] at hlen
      have hp:=ZMV (normX (l.take i)) (el l i) (Zgs _) (by omega)
      refine⟨_,?_,⟨i+1,hlt,rfl⟩,by simp only;omega⟩
      rw[ZzK l i hlt,ZjR]
      simp only[Zgg,RT.val,d,r1,Zcn,hp.1,hp.2,cond_true,Bool.or_true,Zhv i (by omega)]
     ·right;left
      have d:decide ((i:Int)<(l.length:Int))=false:=by simpa using hlt
      have e:l.take i=l:=List.take_of_length_le (by omega)
      rw[e]
      exact⟨_,by simp only[Zgg,RT.val,d,cond_false],rfl,i,rfl⟩)
    (l,iN l.length,0,[],()) ⟨0,Nat.zero_le _,rfl⟩ (by simp only[iN];omega)
   obtain⟨r1,r2⟩:=r
   simp only at h1 hR
   subst h1 hR
   simp only[ZjE,RT.val,hs,hb,hr,okB,getO,cond_true,cond_false,Bool.not_false,Bool.true_or]
 exact⟨by simp only[ZmA,hv];rfl,by simp only[Zxq,hv,getO]⟩
theorem ZHN (t:Int) (b:List Int) (hb:b.length+1<=most):ZBb t b=true/\ZNS t b=ZpW t b:=by
 have hms:=mst
 obtain⟨r,hr,h1,hR⟩:=ZN (fl:=false) (t:=Zgh) (fuel:=λa=>1000000000000)
  (λa=>∃i:Nat,i<=b.length/\a=(t,b,(b.length:Int),(i:Int),Zo2 t b i,()))
  (λa=>Int.toNat (a.2.2.1-a.2.2.2.1)) (λr=>r.1=false/\r.2=(t,b,(b.length:Int),(b.length:Int),Zo2 t b b.length,()))
  (by
   rintro a ⟨i,hi,rfl⟩
   by_cases hlt:i<b.length
   ·left
    have d:decide ((i:Int)<(b.length:Int))=true:=by simpa using hlt
    have r1:=ZaG b i hlt
    have hl:∀x:Cell,Nat.ble (Zo2 t b i++[x]).length most=true:=λx=>by rw[Nat.ble_eq,List.length_append,Zo1];simp only[List.length_singleton];omega
    refine⟨_,?_,⟨i+1,hlt,rfl⟩,by simp only;omega⟩
    rw[ZKq]
    have g:=get_d b i
    simp only[Zgh,RT.val,d,r1,g,hl,cond_true,Bool.not_true,Bool.false_or,Zhv i (by omega)]
   ·right;left
    have d:decide ((i:Int)<(b.length:Int))=false:=by simpa using hlt
    have e:i=b.length:=by omega
    subst e
    exact⟨_,by simp only[Zgh,RT.val,d,cond_false],rfl,rfl⟩)
  (t,b,iN b.length,0,[],()) ⟨0,Nat.zero_le _,rfl⟩ (by simp only[iN];omega)
 obtain⟨r1,r2⟩:=r
 simp only at h1 hR
 subst h1 hR
 have hn:=ZHM (Zo2 t b b.length) (by rw[Zo1];exact hb)
 have hv:(Znf t b).val=some (ZpW t b):=by
  simp only[Znf,RT.val,hr,okB,getO,cond_true,hn.1,hn.2,ZpW]
 exact⟨by simp only[ZBb,hv];rfl,by simp only[ZNS,hv,getO]⟩
def Zs1:Entry:=frzE (newE ZgW ZgX Zs0 (λa=>some (smB a.2)) (λa=>ZpW a.1 a.2))
theorem ZqS:Za Tryz.prog 32 Zs1:=ZyU (ZKa ZIg λa _ h=>by
 have hb:smB a.2=true:=by cases hq:smB a.2 with
  |true=>rfl
  |false=>rw[hq] at h;exact absurd rfl h
 obtain⟨h1,h2⟩:=ZHN a.1 a.2 (Zqq.1 hb)
 exact⟨by rw[h1];simp,h2⟩)
abbrev ZDc:R:=R.pair (R.sl (R.int i64)) (R.int i64)
abbrev ZQr:List Sh:=[]
abbrev ZDb:Rs:=Rs.one (Sh.one R.bool)
def ZGL (s:List Int×Int):RT (Option (Bool×List Int×Int)):=
 .br (Zp s 2) (.leaf (some (((Zd s 2).1==1,(Zd s 2).2)))) (.leaf none)
def Zap (s:List Int×Int):Bool×List Int×Int:=getO (ZDb.dflt,ZDc.dflt) (ZGL s).val
def Zbr (s:List Int×Int):Bool:=okB (ZGL s).val
def ZWn:Entry:=boxE ZDc ZQr ZDb (λa=>some (Zbr a.1)) (λa=>Zap a.1)
theorem ZT3:Za prog 74 ZWn:=
 Zcs (P:=prog) (n:=7) (k:=8) (l:=[(46,ZcK)]) (ol:=[]) ⟨Zbf,Tv⟩ Tryz.func74 rfl (by kernel_rfl) Tryz.call74 trivial (rb:=ZDc) (ts:=ZQr) (rs:=ZDb) (t:=λa=>ZGL a.1) (λa=>by kernel_rfl)
abbrev ZdU:R:=R.pair (R.int u16) (R.pair (R.int u16) (R.pair R.bool (R.int i64)))
abbrev ZdV:Nat:=102
abbrev Zg5:R:=R.pair (R.sl (R.int i64)) (R.int i64)
abbrev ZjT:List Sh:=[Sh.one (R.int i64)]
def ZC4:LS:={n:=44,slots:=[(0,.fix (A.loc 0 0)),(5,.tip 0),(6,.code (Sh.one (R.int i64)))],boxes:=[[.many (R.pair (R.sl (R.int i64)) (R.int i64))]],stgs:=[⟨(R.pair (R.int u16) (R.pair (R.int u16) (R.pair R.bool (R.int i64)))),102,false⟩]}
def ZbX (a:QT18):RT (Option (Go1 (QT18))):=
 let x1:= !Zp (ZaV a.2.1).2 6||Zf (Zd (ZaV a.2.1).2 6).1 (List.length [0,3,15,255,4095,65535])
 let x2:= !x1
 let x3:= !Zp (Zd (Zd (ZaV a.2.1).2 6).2 3).2 5
 let x4:Int:=(Zd (Zd (Zd (ZaV a.2.1).2 6).2 3).2 5).1
 let x5:=Zf x4 (List.length [0,0,1,2,5])
 let x6:=i64.wrap (i64.wrap (ZaV a.2.1).1+R.get (R.int i64) [0,3,15,255,4095,65535] (Zd (ZaV a.2.1).2 6).1)
 let x7:List (QT4):=a.2.2.1++[((ZaV a.2.1).1,u16.wrap (if 65535<x6 then 65535 else x6),decide ((Zd (Zd (ZaV a.2.1).2 6).2 3).1>0),R.get (R.int i64) [0,0,1,2,5] x4)]
 let x8:= !Zp (Zd (ZaV a.2.1).2 6).2 3||(x3||(!x5||Nat.ble (List.length x7) most))
 let x9:= !x8
 let x10:= !Zp (Zd (ZaV a.2.1).2 6).2 3||(x3||x5)
 let x11:= !x10
 let x12:= !Zp (Zd (ZaV a.2.1).2 6).2 3||Zp (Zd (Zd (ZaV a.2.1).2 6).2 3).2 5
 .br (decide (a.1>0)) (.br (!ZfM a.2.1||(x2||(!Zp (ZaV a.2.1).2 6||(x9||(x11||(!x12||Zp (Zd (ZaV a.2.1).2 6).2 3)))))) (.br (!ZfM a.2.1||(x2||(!Zp (ZaV a.2.1).2 6||(x9||(x11||x12))))) (.br (!ZfM a.2.1||(x2||(!Zp (ZaV a.2.1).2 6||(x9||x10)))) (.br (!ZfM a.2.1||(x2||(!Zp (ZaV a.2.1).2 6||x8))) (.br (!ZfM a.2.1||(x2||Zp (ZaV a.2.1).2 6)) (.br (!ZfM a.2.1||x1) (.br (ZfM a.2.1) (.leaf (some (Go1.cont (i64.wrap (a.1-1),(Zd (Zd (Zd (ZaV a.2.1).2 6).2 3).2 5).2,x7,PUnit.unit)))) (.leaf none)) (.leaf none)) (.leaf none)) (.leaf none)) (.leaf none)) (.leaf none)) (.leaf none)) (.leaf (some (Go1.brk (a.1,a.2.1,a.2.2.1,PUnit.unit))))
def Zoz:Ora:=Zbm false ZC4 ZbX (λa=>400)
theorem Zvd:Za1 (envX prog [(46,ZcK),(137,ZQl)] [] 511 8) (.block 0 (.loop (Zae Tryz.f151.body 0))) Zoz:=
 loopP ⟨Zbf,ZGG,Tv⟩
def Zek (s:List Int×Int) (n:Int):RT (Option (List (QT4)×List Int×Int)):=
 let x1:QT18:=((Zd s (i64.wrap (n+1))).1,(Zd s (i64.wrap (n+1))).2,[],())
 let x2:=runF false ZbX (λa=>400) x1
 let x3:(List Int×Int)×List (QT4)×PUnit:=(getO (false,x1) x2).2.2
 .br (Zp s (i64.wrap (n+1))) (.br (okB x2) (.leaf (some ((x3.2.1,x3.1)))) (.leaf none)) (.leaf none)
def Z2 (s:List Int×Int) (n:Int):List (QT4)×List Int×Int:=getO ([],Zg5.dflt) (Zek s n).val
def ZbY (s:List Int×Int) (n:Int):Bool:=okB (Zek s n).val
def Zyb:Entry:=frzE (ZKc Zg5 ZdU ZdV ZjT (λa=>some (ZbY a.1 a.2)) (λa=>Z2 a.1 a.2))
theorem Zyc:Za prog 151 (ZKc Zg5 ZdU ZdV ZjT (λa=>some (ZbY a.1 a.2)) (λa=>Z2 a.1 a.2)):=
 ZQi (P:=prog) (n:=511) (k:=8) (l:=[(46,ZcK),(137,ZQl)]) (ol:=[(0,Zoz)]) ⟨Zbf,ZGG,Tv⟩ Tryz.func151 rfl (by kernel_rfl) Tryz.call151 ⟨Zvd,Tv⟩ (rb:=Zg5) (r:=ZdU) (T:=ZdV) (ts:=ZjT) (t:=λa=>Zek a.1 a.2) (λa=>by kernel_rfl)
theorem ZC2:Za prog 151 Zyb:=ZyU Zyc
abbrev ZQp:R:=R.pair (R.sl (R.int i64)) (R.int i64)
abbrev ZWm:List Sh:=[]
abbrev ZQo:Rs:=Rs.one (Sh.one rcRG)
def ZDa (s:List Int×Int):RT (Option (List (QT4)×List Int×Int)):=
 let x1:List (QT4):=Stg.l (newG ZdU ZdV (Z2 s 2).1)++[(0,65535,true,i64.wrap (Int.tdiv (Zd (Z2 s 2).2 3).1 2))]
 .br (!ZbY s 2||(!Zp (Z2 s 2).2 3||Nat.ble (List.length x1) most)) (.br (!ZbY s 2||Zp (Z2 s 2).2 3) (.br (ZbY s 2) (.leaf (some ((x1,(Zd (Z2 s 2).2 3).2)))) (.leaf none)) (.leaf none)) (.leaf none)
def nMap (s:List Int×Int):List (QT4)×List Int×Int:=getO (ZQo.dflt,ZQp.dflt) (ZDa s).val
def ZKf (s:List Int×Int):Bool:=okB (ZDa s).val
def ZYT:Entry:=boxE ZQp ZWm ZQo (λa=>some (ZKf a.1)) (λa=>nMap a.1)
theorem ZQn:Za prog 95 ZYT:=
 Zcs (P:=prog) (n:=7) (k:=8) (l:=[(46,ZcK),(151,Zyb)]) (ol:=[]) ⟨Zbf,ZC2,Tv⟩ Tryz.func95 rfl (by kernel_rfl) Tryz.call95 trivial (rb:=ZQp) (ts:=ZWm) (rs:=ZQo) (t:=λa=>ZDa a.1) (λa=>by kernel_rfl)
abbrev ZjV:R:=R.pair (R.sl (R.int i64)) (R.int i64)
abbrev Zrf:List Sh:=[Sh.one (R.int i64)]
abbrev ZjU:Rs:=Rs.one (Sh.one (R.sl (R.int u8)))
def ZC6:LS:={n:=75,slots:=[(0,.fix (A.loc 0 0)),(5,.tip 0),(6,.code (Sh.one (R.int i64)))],boxes:=[[.many (R.pair (R.sl (R.int i64)) (R.int i64))]],stgs:=[⟨(R.int u8),5,true⟩]}
def Zc7 (a:QT25):RT (Option (Go1 (QT25))):=
 let x1:=Zf (Zd (Zd a.2.1 8).2 4).1 (List.length [33,49,1,17])
 let x2:= !x1
 let x3:=Zp (Zd (Zd (Zd a.2.1 8).2 4).2 256).2 4
 let x4:= !x3
 let x5:=Zd (Zd (Zd (Zd a.2.1 8).2 4).2 256).2 4
 let x6:=x5.1
 let x7:=Zf x6 (List.length [0,0,1,255])
 let x8:List Int:=a.2.2.1++[R.get (R.int u8) [33,49,1,17] (Zd (Zd a.2.1 8).2 4).1,u8.wrap (Zd (Zd (Zd a.2.1 8).2 4).2 256).1,R.get (R.int u8) [0,0,1,255] x6]
 let x9:= !(Zd a.2.1 8).1==0||(!Zp (Zd a.2.1 8).2 4||(x2||(!Zp (Zd (Zd a.2.1 8).2 4).2 256||(x4||(!x7||Nat.ble (List.length x8) most)))))
 let x10:= !x9
 let x11:= !(Zd a.2.1 8).1==0||(!Zp (Zd a.2.1 8).2 4||(x2||(!Zp (Zd (Zd a.2.1 8).2 4).2 256||(x4||x7))))
 let x12:= !x11
 let x13:= !(Zd a.2.1 8).1==0||(!Zp (Zd a.2.1 8).2 4||(x2||(!Zp (Zd (Zd a.2.1 8).2 4).2 256||x3)))
 let x14:= !x13
 let x15:= !(Zd a.2.1 8).1==0||(!Zp (Zd a.2.1 8).2 4||(x2||Zp (Zd (Zd a.2.1 8).2 4).2 256))
 let x16:= !x15
 let x17:= !(Zd a.2.1 8).1==0||(!Zp (Zd a.2.1 8).2 4||x1)
 let x18:= !x17
 let x19:= !(Zd a.2.1 8).1==0||Zp (Zd a.2.1 8).2 4
 let x20:= !x19
 let x21:List Int:=a.2.2.1++[62,(ZcT (Zd a.2.1 8).2).1,211,u8.wrap (Zd (ZcT (Zd a.2.1 8).2).2 8).1]
 let x22:=(Zd a.2.1 8).1==0||(!(Zd a.2.1 8).1==1||(!Zgv (Zd a.2.1 8).2||(!Zp (ZcT (Zd a.2.1 8).2).2 8||Nat.ble (List.length x21) most)))
 let x23:= !x22
 let x24:=(Zd a.2.1 8).1==0||(!(Zd a.2.1 8).1==1||(!Zgv (Zd a.2.1 8).2||Zp (ZcT (Zd a.2.1 8).2).2 8))
 let x25:= !x24
 let x26:=(Zd a.2.1 8).1==0||(!(Zd a.2.1 8).1==1||Zgv (Zd a.2.1 8).2)
 let x27:= !x26
 let x28:=(Zd a.2.1 8).1==0||((Zd a.2.1 8).1==1||(!(Zd a.2.1 8).1==2||Nat.ble (List.length (a.2.2.1++[251])) most))
 let x29:= !x28
 let x30:List Int:=a.2.2.1++[62,u8.wrap (i64.wrap (16+(Zd (Zd a.2.1 8).2 16).1)),211,0,62,(ZcT (Zd (Zd a.2.1 8).2 16).2).1,211,1,62,0,211,1]
 let x31:=(Zd a.2.1 8).1==0||((Zd a.2.1 8).1==1||((Zd a.2.1 8).1==2||(!(Zd a.2.1 8).1==3||(!Zp (Zd a.2.1 8).2 16||(!Zgv (Zd (Zd a.2.1 8).2 16).2||Nat.ble (List.length x30) most)))))
 let x32:= !x31
 let x33:=(Zd a.2.1 8).1==0||((Zd a.2.1 8).1==1||((Zd a.2.1 8).1==2||(!(Zd a.2.1 8).1==3||(!Zp (Zd a.2.1 8).2 16||Zgv (Zd (Zd a.2.1 8).2 16).2))))
 let x34:= !x33
 let x35:=(Zd a.2.1 8).1==0||((Zd a.2.1 8).1==1||((Zd a.2.1 8).1==2||(!(Zd a.2.1 8).1==3||Zp (Zd a.2.1 8).2 16)))
 let x36:= !x35
 let x37:= !Zp (Zd (Zau (Zd a.2.1 8).2).2 64).2 4
 let x38:Int:=(Zd (Zd (Zau (Zd a.2.1 8).2).2 64).2 4).1
 let x39:=Zf x38 (List.length [0,0,1,255])
 let x40:List Int:=a.2.2.1++[(Zau (Zd a.2.1 8).2).1,u8.wrap (Zd (Zau (Zd a.2.1 8).2).2 64).1,R.get (R.int u8) [0,0,1,255] x38]
 let x41:=(Zd a.2.1 8).1==0||((Zd a.2.1 8).1==1||((Zd a.2.1 8).1==2||((Zd a.2.1 8).1==3||(!Zcd (Zd a.2.1 8).2||(!Zp (Zau (Zd a.2.1 8).2).2 64||(x37||(!x39||Nat.ble (List.length x40) most)))))))
 let x42:= !x41
 let x43:=(Zd a.2.1 8).1==0||((Zd a.2.1 8).1==1||((Zd a.2.1 8).1==2||((Zd a.2.1 8).1==3||(!Zcd (Zd a.2.1 8).2||(!Zp (Zau (Zd a.2.1 8).2).2 64||(x37||x39))))))
 let x44:= !x43
 let x45:=(Zd a.2.1 8).1==0||((Zd a.2.1 8).1==1||((Zd a.2.1 8).1==2||((Zd a.2.1 8).1==3||(!Zcd (Zd a.2.1 8).2||(!Zp (Zau (Zd a.2.1 8).2).2 64||Zp (Zd (Zau (Zd a.2.1 8).2).2 64).2 4)))))
 let x46:= !x45
 let x47:=(Zd a.2.1 8).1==0||((Zd a.2.1 8).1==1||((Zd a.2.1 8).1==2||((Zd a.2.1 8).1==3||(!Zcd (Zd a.2.1 8).2||Zp (Zau (Zd a.2.1 8).2).2 64))))
 let x48:=x10||(x12||(x14||(x16||(x18||(x20||(x23||(x25||(x27||(x29||(x32||(x34||(x36||(x42||(x44||(x46||(!x47||((Zd a.2.1 8).1==0||((Zd a.2.1 8).1==1||((Zd a.2.1 8).1==2||((Zd a.2.1 8).1==3||Zcd (Zd a.2.1 8).2))))))))))))))))))))
 let x49:= !x48
 let x50:=x10||(x12||(x14||(x16||(x18||(x20||(x23||(x25||(x27||(x29||(x32||(x34||(x36||(x42||(x44||(x46||x47)))))))))))))))
 let x51:= !x50
 let x52:=x10||(x12||(x14||(x16||(x18||(x20||(x23||(x25||(x27||(x29||(x32||(x34||(x36||(x42||(x44||x45))))))))))))))
 let x53:= !x52
 let x54:=x10||(x12||(x14||(x16||(x18||(x20||(x23||(x25||(x27||(x29||(x32||(x34||(x36||(x42||x43)))))))))))))
 let x55:= !x54
 let x56:=x10||(x12||(x14||(x16||(x18||(x20||(x23||(x25||(x27||(x29||(x32||(x34||(x36||x41))))))))))))
 let x57:= !x56
 let x58:=x10||(x12||(x14||(x16||(x18||(x20||(x23||(x25||(x27||(x29||(x32||(x34||x35)))))))))))
 let x59:= !x58
 let x60:=x10||(x12||(x14||(x16||(x18||(x20||(x23||(x25||(x27||(x29||(x32||x33))))))))))
 let x61:= !x60
 let x62:=x10||(x12||(x14||(x16||(x18||(x20||(x23||(x25||(x27||(x29||x31)))))))))
 let x63:= !x62
 let x64:=x10||(x12||(x14||(x16||(x18||(x20||(x23||(x25||(x27||x28))))))))
 let x65:= !x64
 let x66:=x10||(x12||(x14||(x16||(x18||(x20||(x23||(x25||x26)))))))
 let x67:= !x66
 let x68:=x10||(x12||(x14||(x16||(x18||(x20||(x23||x24))))))
 let x69:= !x68
 let x70:=x10||(x12||(x14||(x16||(x18||(x20||x22)))))
 let x71:= !x70
 let x72:=x10||(x12||(x14||(x16||(x18||x19))))
 let x73:= !x72
 let x74:=x10||(x12||(x14||(x16||x17)))
 let x75:= !x74
 let x76:=x10||(x12||(x14||x15))
 let x77:= !x76
 let x78:=x10||(x12||x13)
 let x79:= !x78
 let x80:=x10||x11
 let x81:List Int×Int:=(Zd (Zd (Zau (Zd a.2.1 8).2).2 64).2 4).2
 .br (decide (a.1>0)) (.br (!Zp a.2.1 8||(x49||(x51||(x53||(x55||(x57||(x59||(x61||(x63||(x65||(x67||(x69||(x71||(x73||(x75||(x77||(x79||(!x80||x9)))))))))))))))))) (.br (!Zp a.2.1 8||(x49||(x51||(x53||(x55||(x57||(x59||(x61||(x63||(x65||(x67||(x69||(x71||(x73||(x75||(x77||(x79||x80))))))))))))))))) (.br (!Zp a.2.1 8||(x49||(x51||(x53||(x55||(x57||(x59||(x61||(x63||(x65||(x67||(x69||(x71||(x73||(x75||(x77||x78)))))))))))))))) (.br (!Zp a.2.1 8||(x49||(x51||(x53||(x55||(x57||(x59||(x61||(x63||(x65||(x67||(x69||(x71||(x73||(x75||x76))))))))))))))) (.br (!Zp a.2.1 8||(x49||(x51||(x53||(x55||(x57||(x59||(x61||(x63||(x65||(x67||(x69||(x71||(x73||x74)))))))))))))) (.br (!Zp a.2.1 8||(x49||(x51||(x53||(x55||(x57||(x59||(x61||(x63||(x65||(x67||(x69||(x71||x72))))))))))))) (.br (!Zp a.2.1 8||(x49||(x51||(x53||(x55||(x57||(x59||(x61||(x63||(x65||(x67||(x69||x70)))))))))))) (.br (!Zp a.2.1 8||(x49||(x51||(x53||(x55||(x57||(x59||(x61||(x63||(x65||(x67||x68))))))))))) (.br (!Zp a.2.1 8||(x49||(x51||(x53||(x55||(x57||(x59||(x61||(x63||(x65||x66)))))))))) (.br (!Zp a.2.1 8||(x49||(x51||(x53||(x55||(x57||(x59||(x61||(x63||x64))))))))) (.br (!Zp a.2.1 8||(x49||(x51||(x53||(x55||(x57||(x59||(x61||x62)))))))) (.br (!Zp a.2.1 8||(x49||(x51||(x53||(x55||(x57||(x59||x60))))))) (.br (!Zp a.2.1 8||(x49||(x51||(x53||(x55||(x57||x58)))))) (.br (!Zp a.2.1 8||(x49||(x51||(x53||(x55||x56))))) (.br (!Zp a.2.1 8||(x49||(x51||(x53||x54)))) (.br (!Zp a.2.1 8||(x49||(x51||x52))) (.br (!Zp a.2.1 8||(x49||x50)) (.br (!Zp a.2.1 8||x48) (.br (Zp a.2.1 8) (.br ((Zd a.2.1 8).1==0) (.leaf (some (Go1.cont (i64.wrap (a.1-1),x5.2,x8,PUnit.unit)))) (.br ((Zd a.2.1 8).1==1) (.leaf (some (Go1.cont (i64.wrap (a.1-1),(Zd (ZcT (Zd a.2.1 8).2).2 8).2,x21,PUnit.unit)))) (.br ((Zd a.2.1 8).1==2) (.leaf (some (Go1.cont (i64.wrap (a.1-1),(Zd a.2.1 8).2,a.2.2.1++[251],PUnit.unit)))) (.leaf (some (Go1.cont (i64.wrap (a.1-1),(bif (Zd a.2.1 8).1==3 then (ZcT (Zd (Zd a.2.1 8).2 16).2).2.1 else x81.1,bif (Zd a.2.1 8).1==3 then (ZcT (Zd (Zd a.2.1 8).2 16).2).2.2 else x81.2),bif (Zd a.2.1 8).1==3 then x30 else x40,PUnit.unit))))))) (.leaf none)) (.leaf none)) (.leaf none)) (.leaf none)) (.leaf none)) (.leaf none)) (.leaf none)) (.leaf none)) (.leaf none)) (.leaf none)) (.leaf none)) (.leaf none)) (.leaf none)) (.leaf none)) (.leaf none)) (.leaf none)) (.leaf none)) (.leaf none)) (.leaf none)) (.leaf (some (Go1.brk (a.1,a.2.1,a.2.2.1,PUnit.unit))))
def ZoB:Ora:=Zbm false ZC6 Zc7 (λa=>400)
theorem Zve:Za1 (envX prog [(46,ZcK),(108,Zyh),(109,Zg6)] [] 9511883889056940159 8) (.block 0 (.loop (Zae Tryz.f47.body 0))) ZoB:=
 loopP ⟨Zbf,Zlu,Ze1,Tv⟩
def Zgt (s:List Int×Int) (n:Int):RT (Option (List Int×List Int×Int)):=
 let x1:QT25:=((Zd s (i64.wrap (n+1))).1,(Zd s (i64.wrap (n+1))).2,[],())
 let x2:=runF false Zc7 (λa=>400) x1
 let x3:(List Int×Int)×List Int×PUnit:=(getO (false,x1) x2).2.2
 .br (Zp s (i64.wrap (n+1))) (.br (okB x2) (.leaf (some ((x3.2.1,x3.1)))) (.leaf none)) (.leaf none)
def Zcc (s:List Int×Int) (n:Int):List Int×List Int×Int:=getO (ZjU.dflt,ZjV.dflt) (Zgt s n).val
def Zgu (s:List Int×Int) (n:Int):Bool:=okB (Zgt s n).val
def ZoC:Entry:=boxE ZjV Zrf ZjU (λa=>some (Zgu a.1 a.2)) (λa=>Zcc a.1 a.2)
theorem ZoA:Za prog 47 ZoC:=
 Zcs (P:=prog) (n:=9511883889056940159) (k:=8) (l:=[(46,ZcK),(108,Zyh),(109,Zg6)]) (ol:=[(0,ZoB)]) ⟨Zbf,Zlu,Ze1,Tv⟩ Tryz.func47 rfl (by kernel_rfl) Tryz.call47 ⟨Zve,Tv⟩ (rb:=ZjV) (ts:=Zrf) (rs:=ZjU) (t:=λa=>Zgt a.1 a.2) (λa=>by kernel_rfl)
abbrev Zvi:R:=R.pair (R.sl (R.int i64)) (R.int i64)
abbrev ZGN:List Sh:=[]
abbrev Zvh:Rs:=Rs.one (Sh.agg (R.pair (R.int i64) (R.pair rcRG (R.pair (R.int i64) (R.pair (R.int u8) (R.pair (R.int u8) (R.pair R.bool rcCE)))))))
def ZQw:LS:={n:=50,slots:=[(0,.fix (A.loc 0 0)),(2,.fix (A.loc 1 0)),(3,.fix (A.loc 2 0)),(4,.tip 0),(5,.code (Sh.one (R.int i64)))],boxes:=[[.many (R.pair (R.sl (R.int i64)) (R.int i64))],[.many (R.pair (R.int i64) (R.pair rcRG (R.pair (R.int i64) (R.pair (R.int u8) (R.pair (R.int u8) (R.pair R.bool rcCE))))))],[.many (R.pair (R.int i64) (R.pair rcRG (R.pair (R.int i64) (R.pair (R.int u8) (R.pair (R.int u8) (R.pair R.bool rcCE))))))]],stgs:=[⟨R.pair (R.int u16) (R.int u8),106,true⟩]}
def Ze3 (a:QT17):RT (Option (Go1 (QT17))):=
 let x1:=Zf (Zd a.2.1 6).1 (List.length [36,60,52,44,56,32])
 let x2:= !x1
 let x3:List Int:=[(Zau (Zd a.2.1 6).2).1,251,201]
 let x4:=smB x3
 let x5:List (Int×Int):=a.2.2.2.2.1++Stg.l (newG ZgW ZgX (ZpW (u16.wrap (R.get (R.int i64) [36,60,52,44,56,32] (Zd a.2.1 6).1)) x3))
 let x6:= !Zp a.2.1 6||(x2||(!Zcd (Zd a.2.1 6).2||(!x4||Nat.ble (List.length x5) most)))
 let x7:= !x6
 let x8:= !Zp a.2.1 6||(x2||(!Zcd (Zd a.2.1 6).2||x4))
 let x9:= !x8
 let x10:= !Zp a.2.1 6||(x2||Zcd (Zd a.2.1 6).2)
 let x11:= !x10
 let x12:= !Zp a.2.1 6||x1
 .br (decide (a.1>0)) (.br (x7||(x9||(x11||(!x12||Zp a.2.1 6)))) (.br (x7||(x9||(x11||x12))) (.br (x7||(x9||x10)) (.br (x7||x8) (.br (x6) (.leaf (some (Go1.cont (i64.wrap (a.1-1),(Zau (Zd a.2.1 6).2).2,a.2.2.1,a.2.2.2.1,x5,PUnit.unit)))) (.leaf none)) (.leaf none)) (.leaf none)) (.leaf none)) (.leaf none)) (.leaf (some (Go1.brk (a.1,a.2.1,a.2.2.1,a.2.2.2.1,a.2.2.2.2.1,PUnit.unit))))
def Zyj:Ora:=Zbm false ZQw Ze3 (λa=>400)
theorem ZDh:Za1 (envX prog [(32,Zs1),(46,ZcK),(47,ZoC),(72,ZQt),(92,ZsP),(95,ZYT),(108,Zyh),(109,Zg6)] [] 63 8) (.block 0 (.loop (Zae Tryz.f62.body 0))) Zyj:=
 loopP ⟨ZqS,Zbf,ZoA,ZGM,ZmB,ZQn,Zlu,Ze1,Tv⟩
def ZoN (s:List Int×Int):RT (Option (BRDT×List Int×Int)):=
 let x1:=(Zd (Zd (Zd (nMap (Za4 s).2).2 3).2 4).2 6).1==0
 let x2:= !x1
 let x3:List Int×Int:=(Zd (Zd (Zd (nMap (Za4 s).2).2 3).2 4).2 6).2
 let x4:=Zgv x3
 let x5:=ZcT x3
 let x6:=x5.2
 let x7:=ZcT x6
 let x8:=x7.2
 let x9:List Int×Int:=(bif x1 then x8.1 else x3.1,bif x1 then x8.2 else x3.2)
 let x10:=Zgu x9 12
 let x11:=Zcc x9 12
 let x12:=x11.1
 let x13:=x11.2
 let x14:=Zd x13 4
 let x15:QT17:=(x14.1,x14.2,(0,[],0,0,0,false,[]),((Za4 s).1,(nMap (Za4 s).2).1,(Zd (nMap (Za4 s).2).2 3).1,bif x1 then x5.1 else 0,bif x1 then x7.1 else 4,(Zd (Zd (nMap (Za4 s).2).2 3).2 4).1==0,[]),Stg.l (newG ZgW ZgX (ZpW 0 x12)),())
 let x16:=runF false Ze3 (λa=>400) x15
 let x17:(List Int×Int)×BRDT×BRDT×List (Int×Int)×PUnit:=(getO (false,x15) x16).2.2
 let x18:=x17.2.2
 let x19:=x18.2.1
 let x20:=x18.1
 let x21:=x20.2
 let x22:=x21.2
 let x23:=x22.2
 let x24:=x23.2
 .br (!ZoL s||(!ZKf (Za4 s).2||(!Zp (nMap (Za4 s).2).2 3||Zp (Zd (nMap (Za4 s).2).2 3).2 4))) (.br (!ZoL s||(!ZKf (Za4 s).2||Zp (nMap (Za4 s).2).2 3)) (.br (!ZoL s||ZKf (Za4 s).2) (.br (ZoL s) (.br (Zp (Zd (Zd (nMap (Za4 s).2).2 3).2 4).2 6) (.br (x2||(!x4||Zgv x6)) (.br (x2||x4) (.br (!x10||smB x12) (.br (x10) (.br (Zp x13 4) (.br (okB x16) (.br (smC x19) (.leaf (some (((x20.1,x21.1,x22.1,x23.1,x24.1,x24.2.1,Cells.normX x19),x17.1)))) (.leaf none)) (.leaf none)) (.leaf none)) (.leaf none)) (.leaf none)) (.leaf none)) (.leaf none)) (.leaf none)) (.leaf none)) (.leaf none)) (.leaf none)) (.leaf none)
def Zak (s:List Int×Int):BRDT×List Int×Int:=getO (Zvh.dflt,Zvi.dflt) (ZoN s).val
def ZoO (s:List Int×Int):Bool:=okB (ZoN s).val
def ZQx:Entry:=boxE Zvi ZGN Zvh (λa=>some (ZoO a.1)) (λa=>Zak a.1)
theorem ZQv:Za prog 62 ZQx:=
 Zcs (P:=prog) (n:=63) (k:=8) (l:=[(32,Zs1),(46,ZcK),(47,ZoC),(72,ZQt),(92,ZsP),(95,ZYT),(108,Zyh),(109,Zg6)]) (ol:=[(0,Zyj)]) ⟨ZqS,Zbf,ZoA,ZGM,ZmB,ZQn,Zlu,Ze1,Tv⟩ Tryz.func62 rfl (by kernel_rfl) Tryz.call62 ⟨ZDh,Tv⟩ (rb:=Zvi) (ts:=ZGN) (rs:=Zvh) (t:=λa=>ZoN a.1) (λa=>by kernel_rfl)
abbrev Zvg:R:=R.pair (R.sl (R.int i64)) (R.int i64)
abbrev ZGK:List Sh:=[]
abbrev Zvf:Rs:=Rs.one (Sh.agg Zdt)
def ZoJ (s:List Int×Int):RT (Option (INPT×List Int×Int)):=
 let x1:=decide ((Zd s 64).1<30)||(decide ((Zd s 64).1<36)||(decide ((Zd s 64).1<40)||(!decide ((Zd s 64).1<46)||Zp (Zd s 64).2 256)))
 let x2:= !x1
 let x3:=decide ((Zd s 64).1<30)||(decide ((Zd s 64).1<36)||(decide ((Zd s 64).1<40)||(decide ((Zd s 64).1<46)||(decide ((Zd s 64).1<50)||(decide ((Zd s 64).1<53)||(decide ((Zd s 64).1<55)||((Zd s 64).1==55||(!decide ((Zd s 64).1<60)||Zcd (Zd s 64).2))))))))
 let x4:= !x3
 let x5:= !Zbr (Zap (Zap (Zap (Zap (Zd s 64).2).2).2).2).2
 let x6:List Int×Int:=(Zap (Zap (Zap (Zap (Zap (Zd s 64).2).2).2).2).2).2
 let x7:=Zp x6 256
 let x8:=Zd x6 256
 let x9:=x8.2
 let x10:=decide ((Zd s 64).1<30)||(decide ((Zd s 64).1<36)||(decide ((Zd s 64).1<40)||(decide ((Zd s 64).1<46)||(decide ((Zd s 64).1<50)||(decide ((Zd s 64).1<53)||(decide ((Zd s 64).1<55)||((Zd s 64).1==55||(decide ((Zd s 64).1<60)||(!Zbr (Zd s 64).2||(!Zbr (Zap (Zd s 64).2).2||(!Zbr (Zap (Zap (Zd s 64).2).2).2||(!Zbr (Zap (Zap (Zap (Zd s 64).2).2).2).2||(x5||(!x7||Zp x9 256))))))))))))))
 let x11:= !x10
 let x12:=decide ((Zd s 64).1<30)||(decide ((Zd s 64).1<36)||(decide ((Zd s 64).1<40)||(decide ((Zd s 64).1<46)||(decide ((Zd s 64).1<50)||(decide ((Zd s 64).1<53)||(decide ((Zd s 64).1<55)||((Zd s 64).1==55||(decide ((Zd s 64).1<60)||(!Zbr (Zd s 64).2||(!Zbr (Zap (Zd s 64).2).2||(!Zbr (Zap (Zap (Zd s 64).2).2).2||(!Zbr (Zap (Zap (Zap (Zd s 64).2).2).2).2||(x5||x7)))))))))))))
 let x13:= !x12
 let x14:=decide ((Zd s 64).1<30)||(decide ((Zd s 64).1<36)||(decide ((Zd s 64).1<40)||(decide ((Zd s 64).1<46)||(decide ((Zd s 64).1<50)||(decide ((Zd s 64).1<53)||(decide ((Zd s 64).1<55)||((Zd s 64).1==55||(decide ((Zd s 64).1<60)||(!Zbr (Zd s 64).2||(!Zbr (Zap (Zd s 64).2).2||(!Zbr (Zap (Zap (Zd s 64).2).2).2||(!Zbr (Zap (Zap (Zap (Zd s 64).2).2).2).2||Zbr (Zap (Zap (Zap (Zap (Zd s 64).2).2).2).2).2))))))))))))
 let x15:= !x14
 let x16:=decide ((Zd s 64).1<30)||(decide ((Zd s 64).1<36)||(decide ((Zd s 64).1<40)||(decide ((Zd s 64).1<46)||(decide ((Zd s 64).1<50)||(decide ((Zd s 64).1<53)||(decide ((Zd s 64).1<55)||((Zd s 64).1==55||(decide ((Zd s 64).1<60)||(!Zbr (Zd s 64).2||(!Zbr (Zap (Zd s 64).2).2||(!Zbr (Zap (Zap (Zd s 64).2).2).2||Zbr (Zap (Zap (Zap (Zd s 64).2).2).2).2)))))))))))
 let x17:= !x16
 let x18:=decide ((Zd s 64).1<30)||(decide ((Zd s 64).1<36)||(decide ((Zd s 64).1<40)||(decide ((Zd s 64).1<46)||(decide ((Zd s 64).1<50)||(decide ((Zd s 64).1<53)||(decide ((Zd s 64).1<55)||((Zd s 64).1==55||(decide ((Zd s 64).1<60)||(!Zbr (Zd s 64).2||(!Zbr (Zap (Zd s 64).2).2||Zbr (Zap (Zap (Zd s 64).2).2).2))))))))))
 let x19:= !x18
 let x20:=decide ((Zd s 64).1<30)||(decide ((Zd s 64).1<36)||(decide ((Zd s 64).1<40)||(decide ((Zd s 64).1<46)||(decide ((Zd s 64).1<50)||(decide ((Zd s 64).1<53)||(decide ((Zd s 64).1<55)||((Zd s 64).1==55||(decide ((Zd s 64).1<60)||(!Zbr (Zd s 64).2||Zbr (Zap (Zd s 64).2).2)))))))))
 let x21:=Zd x9 256
 let x22:=x21.2
 .br (Zp s 64) (.br (x2||(x4||(x11||(x13||(x15||(x17||(x19||(!x20||(decide ((Zd s 64).1<30)||(decide ((Zd s 64).1<36)||(decide ((Zd s 64).1<40)||(decide ((Zd s 64).1<46)||(decide ((Zd s 64).1<50)||(decide ((Zd s 64).1<53)||(decide ((Zd s 64).1<55)||((Zd s 64).1==55||(decide ((Zd s 64).1<60)||Zbr (Zd s 64).2))))))))))))))))) (.br (x2||(x4||(x11||(x13||(x15||(x17||(x19||x20))))))) (.br (x2||(x4||(x11||(x13||(x15||(x17||x18)))))) (.br (x2||(x4||(x11||(x13||(x15||x16))))) (.br (x2||(x4||(x11||(x13||x14)))) (.br (x2||(x4||(x11||x12))) (.br (x2||(x4||x10)) (.br (x2||x3) (.br (x1) (.leaf (some (((bif decide ((Zd s 64).1<30) then ZW.1 else !decide ((Zd s 64).1<36)&&bif decide ((Zd s 64).1<40) then ZW.1 else bif decide ((Zd s 64).1<46) then ZW.1 else bif decide ((Zd s 64).1<50) then ZW.1 else bif decide ((Zd s 64).1<53) then ZW.1 else bif decide ((Zd s 64).1<55) then ZW.1 else bif (Zd s 64).1==55 then ZW.1 else bif decide ((Zd s 64).1<60) then ZW.1 else (Zap (Zd s 64).2).1,bif decide ((Zd s 64).1<30) then ZW.2.1 else bif decide ((Zd s 64).1<36) then ZW.2.1 else decide ((Zd s 64).1<40)||bif decide ((Zd s 64).1<46) then ZW.2.1 else bif decide ((Zd s 64).1<50) then ZW.2.1 else bif decide ((Zd s 64).1<53) then ZW.2.1 else bif decide ((Zd s 64).1<55) then ZW.2.1 else bif (Zd s 64).1==55 then ZW.2.1 else bif decide ((Zd s 64).1<60) then ZW.2.1 else (Zap (Zap (Zd s 64).2).2).1,bif decide ((Zd s 64).1<30) then ZW.2.2.1 else bif decide ((Zd s 64).1<36) then ZW.2.2.1 else bif decide ((Zd s 64).1<40) then ZW.2.2.1 else bif decide ((Zd s 64).1<46) then ZW.2.2.1 else bif decide ((Zd s 64).1<50) then ZW.2.2.1 else bif decide ((Zd s 64).1<53) then ZW.2.2.1 else bif decide ((Zd s 64).1<55) then ZW.2.2.1 else (Zd s 64).1==55||decide ((Zd s 64).1<60)&&ZW.2.2.1,bif decide ((Zd s 64).1<30) then ZW.2.2.2.1 else bif decide ((Zd s 64).1<36) then ZW.2.2.2.1 else bif decide ((Zd s 64).1<40) then ZW.2.2.2.1 else bif decide ((Zd s 64).1<46) then ZW.2.2.2.1 else bif decide ((Zd s 64).1<50) then ZW.2.2.2.1 else bif decide ((Zd s 64).1<53) then (Zd s 64).1==51 else bif decide ((Zd s 64).1<55) then ZW.2.2.2.1 else bif (Zd s 64).1==55 then ZW.2.2.2.1 else bif decide ((Zd s 64).1<60) then ZW.2.2.2.1 else (Zap (Zap (Zap (Zd s 64).2).2).2).1,bif decide ((Zd s 64).1<30) then ZW.2.2.2.2.1 else bif decide ((Zd s 64).1<36) then ZW.2.2.2.2.1 else bif decide ((Zd s 64).1<40) then ZW.2.2.2.2.1 else bif decide ((Zd s 64).1<46) then ZW.2.2.2.2.1 else bif decide ((Zd s 64).1<50) then ZW.2.2.2.2.1 else bif decide ((Zd s 64).1<53) then ZW.2.2.2.2.1 else decide ((Zd s 64).1<55)||bif (Zd s 64).1==55 then ZW.2.2.2.2.1 else decide ((Zd s 64).1<60)&&ZW.2.2.2.2.1,bif decide ((Zd s 64).1<30) then ZW.2.2.2.2.2.1 else bif decide ((Zd s 64).1<36) then ZW.2.2.2.2.2.1 else bif decide ((Zd s 64).1<40) then ZW.2.2.2.2.2.1 else bif decide ((Zd s 64).1<46) then ZW.2.2.2.2.2.1 else bif decide ((Zd s 64).1<50) then Int.tmod (Zd s 64).1 2==0 else bif decide ((Zd s 64).1<53) then ZW.2.2.2.2.2.1 else bif decide ((Zd s 64).1<55) then ZW.2.2.2.2.2.1 else bif (Zd s 64).1==55 then ZW.2.2.2.2.2.1 else bif decide ((Zd s 64).1<60) then ZW.2.2.2.2.2.1 else (Zap (Zap (Zap (Zap (Zd s 64).2).2).2).2).1,bif decide ((Zd s 64).1<30) then ZW.2.2.2.2.2.2.1 else bif decide ((Zd s 64).1<36) then ZW.2.2.2.2.2.2.1 else bif decide ((Zd s 64).1<40) then ZW.2.2.2.2.2.2.1 else bif decide ((Zd s 64).1<46) then ZW.2.2.2.2.2.2.1 else bif decide ((Zd s 64).1<50) then Int.tmod (Zd s 64).1 2==1 else bif decide ((Zd s 64).1<53) then ZW.2.2.2.2.2.2.1 else bif decide ((Zd s 64).1<55) then ZW.2.2.2.2.2.2.1 else bif (Zd s 64).1==55 then ZW.2.2.2.2.2.2.1 else bif decide ((Zd s 64).1<60) then ZW.2.2.2.2.2.2.1 else (Zap (Zap (Zap (Zap (Zap (Zd s 64).2).2).2).2).2).1,bif decide ((Zd s 64).1<30) then ZW.2.2.2.2.2.2.2.1 else bif decide ((Zd s 64).1<36) then ZW.2.2.2.2.2.2.2.1 else bif decide ((Zd s 64).1<40) then ZW.2.2.2.2.2.2.2.1 else bif decide ((Zd s 64).1<46) then ZW.2.2.2.2.2.2.2.1 else bif decide ((Zd s 64).1<50) then ZW.2.2.2.2.2.2.2.1 else decide ((Zd s 64).1<53)||bif decide ((Zd s 64).1<55) then ZW.2.2.2.2.2.2.2.1 else bif (Zd s 64).1==55 then ZW.2.2.2.2.2.2.2.1 else decide ((Zd s 64).1<60)&&ZW.2.2.2.2.2.2.2.1,bif decide ((Zd s 64).1<30) then ZW.2.2.2.2.2.2.2.2.1 else bif decide ((Zd s 64).1<36) then ZW.2.2.2.2.2.2.2.2.1 else bif decide ((Zd s 64).1<40) then ZW.2.2.2.2.2.2.2.2.1 else bif decide ((Zd s 64).1<46) then u8.wrap (Zd (Zd s 64).2 256).1 else bif decide ((Zd s 64).1<50) then ZW.2.2.2.2.2.2.2.2.1 else bif decide ((Zd s 64).1<53) then ZW.2.2.2.2.2.2.2.2.1 else bif decide ((Zd s 64).1<55) then ZW.2.2.2.2.2.2.2.2.1 else bif (Zd s 64).1==55 then ZW.2.2.2.2.2.2.2.2.1 else bif decide ((Zd s 64).1<60) then 1 else u8.wrap x8.1,bif decide ((Zd s 64).1<30) then u8.wrap (Zd s 64).1 else bif decide ((Zd s 64).1<36) then ZW.2.2.2.2.2.2.2.2.2 else bif decide ((Zd s 64).1<40) then ZW.2.2.2.2.2.2.2.2.2 else bif decide ((Zd s 64).1<46) then ZW.2.2.2.2.2.2.2.2.2 else bif decide ((Zd s 64).1<50) then ZW.2.2.2.2.2.2.2.2.2 else bif decide ((Zd s 64).1<53) then ZW.2.2.2.2.2.2.2.2.2 else bif decide ((Zd s 64).1<55) then ZW.2.2.2.2.2.2.2.2.2 else bif (Zd s 64).1==55 then ZW.2.2.2.2.2.2.2.2.2 else bif decide ((Zd s 64).1<60) then (Zau (Zd s 64).2).1 else u8.wrap x21.1),bif decide ((Zd s 64).1<30) then (Zd s 64).2.1 else bif decide ((Zd s 64).1<36) then (Zd s 64).2.1 else bif decide ((Zd s 64).1<40) then (Zd s 64).2.1 else bif decide ((Zd s 64).1<46) then (Zd (Zd s 64).2 256).2.1 else bif decide ((Zd s 64).1<50) then (Zd s 64).2.1 else bif decide ((Zd s 64).1<53) then (Zd s 64).2.1 else bif decide ((Zd s 64).1<55) then (Zd s 64).2.1 else bif (Zd s 64).1==55 then (Zd s 64).2.1 else bif decide ((Zd s 64).1<60) then (Zau (Zd s 64).2).2.1 else x22.1,bif decide ((Zd s 64).1<30) then (Zd s 64).2.2 else bif decide ((Zd s 64).1<36) then (Zd s 64).2.2 else bif decide ((Zd s 64).1<40) then (Zd s 64).2.2 else bif decide ((Zd s 64).1<46) then (Zd (Zd s 64).2 256).2.2 else bif decide ((Zd s 64).1<50) then (Zd s 64).2.2 else bif decide ((Zd s 64).1<53) then (Zd s 64).2.2 else bif decide ((Zd s 64).1<55) then (Zd s 64).2.2 else bif (Zd s 64).1==55 then (Zd s 64).2.2 else bif decide ((Zd s 64).1<60) then (Zau (Zd s 64).2).2.2 else x22.2)))) (.leaf none)) (.leaf none)) (.leaf none)) (.leaf none)) (.leaf none)) (.leaf none)) (.leaf none)) (.leaf none)) (.leaf none)) (.leaf none)
def ZdD (s:List Int×Int):INPT×List Int×Int:=getO (Zvf.dflt,Zvg.dflt) (ZoJ s).val
def ZhP (s:List Int×Int):Bool:=okB (ZoJ s).val
def ZoK:Entry:=boxE Zvg ZGK Zvf (λa=>some (ZhP a.1)) (λa=>ZdD a.1)
theorem ZoI:Za prog 135 ZoK:=
 Zcs (P:=prog) (n:=5036105318265824215071) (k:=8) (l:=[(46,ZcK),(74,ZWn),(109,Zg6),(190,ZD4)]) (ol:=[]) ⟨Zbf,ZT3,Ze1,ZrK,Tv⟩ Tryz.func135 rfl (by kernel_rfl) Tryz.call135 trivial (rb:=Zvg) (ts:=ZGK) (rs:=Zvf) (t:=λa=>ZoJ a.1) (λa=>by kernel_rfl)
abbrev ZoH:R:=R.pair (R.sl (R.int i64)) (R.int i64)
abbrev Zye:List Sh:=[Sh.one (R.int i64)]
abbrev ZoG:Rs:=Rs.one (Sh.one (R.sl Zdt))
def ZKj:LS:={n:=39,slots:=[(0,.fix (A.loc 0 0)),(5,.tip 0),(6,.code (Sh.one (R.int i64))),(7,.fix (A.loc 1 0)),(8,.code (Sh.one (R.int i64)))],boxes:=[[.many (R.pair (R.sl (R.int i64)) (R.int i64))],[.many Zdt]],stgs:=[⟨Zdt,195,true⟩]}
def ZdW (a:QT16):RT (Option (Go1 (QT16))):=
 let x1:List INPT:=a.2.2.2.2.1++[a.2.2.2.1]
 .br (decide (a.2.1>=0)&&decide (iN (List.length a.2.2.2.2.1)<a.1)) (.br (Nat.ble (List.length x1) most) (.leaf (some (Go1.cont (a.1,i64.wrap (a.2.1-1),a.2.2.1,a.2.2.2.1,x1,PUnit.unit)))) (.leaf none)) (.leaf (some (Go1.brk (a.1,a.2.1,a.2.2.1,a.2.2.2.1,a.2.2.2.2.1,PUnit.unit))))
def Zg7:Ora:=Zbm false ZKj ZdW (λa=>400)
theorem Zky:Za1 (envX prog [(46,ZcK),(135,ZoK)] [] 511 8) (.block 2 (.loop (Zae Tryz.f71.body 2))) Zg7:=
 loopP ⟨Zbf,ZoI,Tv⟩
def ZKi:LS:={n:=39,slots:=[(0,.fix (A.loc 0 0)),(5,.tip 0),(6,.code (Sh.one (R.int i64)))],boxes:=[[.many (R.pair (R.sl (R.int i64)) (R.int i64))]],stgs:=[⟨Zdt,195,true⟩]}
def Ze2 (a:QT24):RT (Option (Go1 (QT24))):=
 let x1:= !Zp (ZdD a.2.1).2 4||Zp (Zd (ZdD a.2.1).2 4).2 5
 let x2:= !x1
 let x3:QT16:=(a.1,i64.wrap ((Zd (ZdD a.2.1).2 4).1*(Zd (Zd (ZdD a.2.1).2 4).2 5).1),(Zd (Zd (ZdD a.2.1).2 4).2 5).2,(ZdD a.2.1).1,a.2.2.1,())
 let x4:=runF false ZdW (λa_1=>400) x3
 let x5:QT16:=(getO (false,x3) x4).2
 let x6:=x5.2.2
 .br (decide (iN (List.length a.2.2.1)<a.1)) (.br (!ZhP a.2.1||(x2||(!Zp (ZdD a.2.1).2 4||okB x4))) (.br (!ZhP a.2.1||(x2||Zp (ZdD a.2.1).2 4)) (.br (!ZhP a.2.1||x1) (.br (ZhP a.2.1) (.leaf (some (Go1.cont (x5.1,x6.1,x6.2.2.1,PUnit.unit)))) (.leaf none)) (.leaf none)) (.leaf none)) (.leaf none)) (.leaf (some (Go1.brk (a.1,a.2.1,a.2.2.1,PUnit.unit))))
def Zrg:Ora:=Zbm false ZKi Ze2 (λa=>400)
theorem Zyf:Za1 (envX prog [(46,ZcK),(135,ZoK)] [(2,Zg7)] 511 8) (.block 0 (.loop (Zae Tryz.f71.body 0))) Zrg:=
 ZiV (Zb4 (l:=[(46,ZcK),(135,ZoK)]) ⟨Zbf,ZoI,Tv⟩ [(2,Zg7)] 511 8) (ZhR (by kernel_rfl) (by kernel_rfl) ⟨Zky,Tv⟩) (λa=>by kernel_rfl)
def ZiP (s:List Int×Int) (n:Int):RT (Option (List INPT×List Int×Int)):=
 let x1:QT24:=((Zd s (i64.wrap (n+1))).1,(Zd s (i64.wrap (n+1))).2,[],())
 let x2:=runF false Ze2 (λa=>400) x1
 let x3:(List Int×Int)×List INPT×PUnit:=(getO (false,x1) x2).2.2
 .br (Zp s (i64.wrap (n+1))) (.br (okB x2) (.leaf (some ((x3.2.1,x3.1)))) (.leaf none)) (.leaf none)
def Zaj (s:List Int×Int) (n:Int):List INPT×List Int×Int:=getO (ZoG.dflt,ZoH.dflt) (ZiP s n).val
def ZiQ (s:List Int×Int) (n:Int):Bool:=okB (ZiP s n).val
def ZGJ:Entry:=boxE ZoH Zye ZoG (λa=>some (ZiQ a.1 a.2)) (λa=>Zaj a.1 a.2)
theorem ZKg:Za prog 71 ZGJ:=
 Zcs (P:=prog) (n:=511) (k:=8) (l:=[(46,ZcK),(135,ZoK)]) (ol:=[(2,Zg7),(0,Zrg)]) ⟨Zbf,ZoI,Tv⟩ Tryz.func71 rfl (by kernel_rfl) Tryz.call71 ⟨Zky,Zyf,Tv⟩ (rb:=ZoH) (ts:=Zye) (rs:=ZoG) (t:=λa=>ZiP a.1 a.2) (λa=>by kernel_rfl)
theorem NB.up {s:List Int×Int} {k j:Int} (h:NB s k) (hj:k<=j):NB s j:=⟨h.1,by have:=h.2;omega⟩
theorem ZiR {s:List Int×Int} {k:Int} (h:NB s k) (hk:k<=1000000):Zbr s=true/\NB (Zap s).2 (k+1):=by
 obtain⟨c1,b,_⟩:=Zy h hk 2 (by decide) (by decide)
 simp only[Zbr,Zap,ZGL,RT.val,c1,cond_true,okB,getO]
 exact⟨trivial,b⟩
theorem ZaF {a b:Nat} (h:a<=b):Nat.ble a b=true:=by rw[Nat.ble_eq];exact h
theorem ZC3 {s:List Int×Int} {k:Int} (h:NB s k) (hk:k<=500000) (n:Nat) (hn:n<=100):
  ZbY s (n:Int)=true/\NB (Z2 s (n:Int)).2 (k+1+5*n)/\(Z2 s (n:Int)).1.length<=n:=by
 have hms:=mst
 have w0:IntKind.wrap .i64 ((n:Int)+1)=(n:Int)+1:=wrap_i64 _ (by omega) (by omega)
 obtain⟨c1,b1,d0,d1⟩:=Zy h (by omega) ((n:Int)+1) (by omega) (by omega)
 obtain⟨L,N,hs1⟩:∃L N,(L,N)=(Zd s ((n:Int)+1)).2:=⟨_,_,rfl⟩
 obtain⟨q,hq⟩:∃q:Nat,(Zd s ((n:Int)+1)).1=(q:Int):=⟨_,(Int.toNat_of_nonneg d0).symm⟩
 rw[<-hs1] at b1
 obtain⟨r,hr,h1,L',N',o,hs',ho,hR⟩:=ZN (fl:=false) (t:=ZbX) (fuel:=λa=>400)
  (λa=>∃(i:Nat) (L:List Int) (N:Int) (o:List Z1),i<=q/\NB (L,N) (k+1+5*((q-i:Nat):Int))/\o.length<=q-i/\a=((i:Int),(L,N),o,()))
  (λa=>Int.toNat a.1) (λr=>r.1=false/\∃(L:List Int) (N:Int) (o:List Z1),NB (L,N) (k+1+5*(q:Int))/\o.length<=q/\r.2=((0:Int),(L,N),o,()))
  (by
   rintro a ⟨i,L,N,o,hi,hs',ho,rfl⟩
   cases i with
   |zero=>
    right;left
    exact⟨_,by simp only[ZbX,RT.val];rfl,rfl,L,N,o,by simpa using hs',by omega,rfl⟩
   |succ i=>
    left
    have d:decide (((i+1:Nat):Int)>0)=true:=decide_eq_true (by omega)
    obtain⟨kw,bw,_⟩:=ZGH hs' (by omega)
    obtain⟨k1,b1,e0,e1⟩:=Zy bw (by omega) 6 (by decide) (by decide)
    obtain⟨k2,b2,_⟩:=Zy b1 (by omega) 3 (by decide) (by decide)
    obtain⟨k3,b3,f0,f1⟩:=Zy b2 (by omega) 5 (by decide) (by decide)
    have r1:Zf (Zd (ZaV (L,N)).2 6).1 6=true:=ZK.2 ⟨e0,e1⟩
    have r2:Zf (Zd (Zd (Zd (ZaV (L,N)).2 6).2 3).2 5).1 5=true:=ZK.2 ⟨f0,f1⟩
    have hb:∀x:Z1,Nat.ble (o++[x]).length most=true:=λx=>ZaF (by simp;omega)
    have w:IntKind.wrap .i64 (((i+1:Nat):Int)-1)=(i:Int):=by rw[wrap_i64 _ (by omega) (by omega)];omega
    obtain⟨o',ho'⟩:∃o':List Z1,o'=o++[((ZaV (L,N)).1,u16.wrap (if 65535<i64.wrap (i64.wrap (ZaV (L,N)).1+R.get (R.int i64) [0,3,15,255,4095,65535] (Zd (ZaV (L,N)).2 6).1) then 65535 else i64.wrap (i64.wrap (ZaV (L,N)).1+R.get (R.int i64) [0,3,15,255,4095,65535] (Zd (ZaV (L,N)).2 6).1)),decide ((Zd (Zd (ZaV (L,N)).2 6).2 3).1>0),R.get (R.int i64) [0,0,1,2,5] (Zd (Zd (Zd (ZaV (L,N)).2 6).2 3).2 5).1)]:=⟨_,rfl⟩
    refine⟨((i:Int),((Zd (Zd (Zd (ZaV (L,N)).2 6).2 3).2 5).2.1,(Zd (Zd (Zd (ZaV (L,N)).2 6).2 3).2 5).2.2),o',()),?_,⟨i,_,_,o',by omega,b3.up (by omega),by rw[ho'];simp;omega,rfl⟩,by simp only;omega⟩
    simp only[ZbX,RT.val,List.length_cons,List.length_nil,Nat.reduceAdd,d,kw,k1,k2,k3,r1,r2,hb,w,ho',cond_true,Bool.not_true,Bool.false_or,Bool.or_true,Bool.or_false])
  ((q:Int),(L,N),[],()) ⟨q,L,N,[],Nat.le_refl _,by simpa using b1,by simp,rfl⟩ (by simp only;omega)
 obtain⟨r1,r2⟩:=r
 simp only at h1 hR
 subst h1 hR
 have hv:(Zek s (n:Int)).val=some (o,L',N'):=by
  simp only[Zek,RT.val,w0,c1,hq,<-hs1,hr,okB,getO,cond_true]
 simp only[ZbY,Z2,hv,okB,getO]
 exact⟨trivial,hs'.up (by omega),by omega⟩
theorem ZZQ {l:List Cell} (h:l.length<=1000):smC l=true:=ZaF (by have:=mst;omega)
theorem ZVg {l:List Int} (h:l.length<=1000):smB l=true:=ZaF (by have:=mst;omega)
theorem ZC9 {s:List Int×Int} {k:Int} (h:NB s k) (hk:k<=400000):ZKf s=true/\NB (nMap s).2 (k+20)/\(nMap s).1.length<=3:=by
 obtain⟨c1,b1,l1⟩:=ZC3 h (by omega) 2 (by omega)
 have c1:ZbY s 2=true:=c1
 have b1:NB (Z2 s 2).2 (k+1+5*((2:Nat):Int)):=b1
 have l1:(Z2 s 2).1.length<=2:=l1
 obtain⟨c2,b2,_⟩:=Zy b1 (by omega) 3 (by decide) (by decide)
 have hs:∀x:Z1,Nat.ble ((Z2 s 2).1++[x]).length most=true:=λx=>ZaF (by have:=mst;simp;omega)
 have hg:∀l:List Z1,Stg.l (newG ZdU ZdV l)=l:=λ_=>rfl
 have hv:(ZDa s).val=some ((Z2 s 2).1++[(0,65535,true,IntKind.wrap .i64 (Int.tdiv (Zd (Z2 s 2).2 3).1 2))],(Zd (Z2 s 2).2 3).2):=by
  simp only[ZDa,RT.val,hg,c1,c2,hs,Bool.not_true,Bool.false_or,Bool.or_true,cond_true]
 refine⟨by simp only[ZKf,hv];rfl,?_,?_⟩
 ·simp only[nMap,hv,getO];exact b2.up (by omega)
 ·simp only[nMap,hv,getO];simp;omega
theorem ZC5 {s:List Int×Int} {k:Int} (h:NB s k) (hk:k<=300000) (n:Nat) (hn:n<=20):
  Zgu s (n:Int)=true/\NB (Zcc s (n:Int)).2 (k+1+10*n)/\(Zcc s (n:Int)).1.length<=12*n:=by
 have hms:=mst
 have w0:IntKind.wrap .i64 ((n:Int)+1)=(n:Int)+1:=wrap_i64 _ (by omega) (by omega)
 obtain⟨c1,b1,d0,d1⟩:=Zy h (by omega) ((n:Int)+1) (by omega) (by omega)
 obtain⟨s1,hs1⟩:∃s1,s1=(Zd s ((n:Int)+1)).2:=⟨_,rfl⟩
 obtain⟨q,hq⟩:∃q:Nat,(Zd s ((n:Int)+1)).1=(q:Int):=⟨_,(Int.toNat_of_nonneg d0).symm⟩
 rw[<-hs1] at b1
 obtain⟨r,hr,h1,s',o,hs',ho,hR⟩:=ZN (fl:=false) (t:=Zc7) (fuel:=λa=>400)
  (λa=>∃(i:Nat) (s':List Int×Int) (o:List Int),i<=q/\NB s' (k+1+10*((q-i:Nat):Int))/\o.length<=12*(q-i)/\a=((i:Int),s',o,()))
  (λa=>Int.toNat a.1) (λr=>r.1=false/\∃(s':List Int×Int) (o:List Int),NB s' (k+1+10*(q:Int))/\o.length<=12*q/\r.2=((0:Int),s',o,()))
  (by
   rintro a ⟨i,s',o,hi,hs',ho,rfl⟩
   cases i with
   |zero=>
    right;left
    exact⟨_,by simp only[Zc7,RT.val];rfl,rfl,s',o,by simpa using hs',by omega,rfl⟩
   |succ i=>
    left
    have d:decide (((i+1:Nat):Int)>0)=true:=decide_eq_true (by omega)
    have w:IntKind.wrap .i64 (((i+1:Nat):Int)-1)=(i:Int):=by rw[wrap_i64 _ (by omega) (by omega)];omega
    obtain⟨k0,b0,_⟩:=Zy hs' (by omega) 8 (by decide) (by decide)
    obtain⟨k1,b1,e0,e1⟩:=Zy b0 (by omega) 4 (by decide) (by decide)
    obtain⟨k2,b2,_⟩:=Zy b1 (by omega) 256 (by decide) (by decide)
    obtain⟨k3,b3,f0,f1⟩:=Zy b2 (by omega) 4 (by decide) (by decide)
    obtain⟨k4,b4,_⟩:=Zlv b0 (by omega)
    obtain⟨k5,b5,_⟩:=Zy b4 (by omega) 8 (by decide) (by decide)
    obtain⟨k6,b6,_⟩:=Zy b0 (by omega) 16 (by decide) (by decide)
    obtain⟨k7,b7,_⟩:=Zlv b6 (by omega)
    obtain⟨k8,b8,_⟩:=ZjW b0 (by omega)
    obtain⟨k9,b9,_⟩:=Zy b8 (by omega) 64 (by decide) (by decide)
    obtain⟨ka,ba,g0,g1⟩:=Zy b9 (by omega) 4 (by decide) (by decide)
    have r1:Zf (Zd (Zd s' 8).2 4).1 4=true:=ZK.2 ⟨e0,e1⟩
    have r2:Zf (Zd (Zd (Zd (Zd s' 8).2 4).2 256).2 4).1 4=true:=ZK.2 ⟨f0,f1⟩
    have r3:Zf (Zd (Zd (Zau (Zd s' 8).2).2 64).2 4).1 4=true:=ZK.2 ⟨g0,g1⟩
    have hb:∀x:List Int,x.length<=12->Nat.ble (o++x).length most=true:=λx hx=>ZaF (by rw[List.length_append];omega)
    have q1:∀a b c:Int,Nat.ble (o++[a,b,c]).length most=true:=λa b c=>hb _ (by simp)
    have q2:∀a b c d:Int,Nat.ble (o++[a,b,c,d]).length most=true:=λa b c d=>hb _ (by simp)
    have q3:∀a:Int,Nat.ble (o++[a]).length most=true:=λa=>hb _ (by simp)
    have q4:∀a b c d e f g h i j k l:Int,Nat.ble (o++[a,b,c,d,e,f,g,h,i,j,k,l]).length most=true:=λa b c d e f g h i j k l=>hb _ (by simp)
    have hv:∃s2 x,x.length<=12/\NB s2 (k+1+10*((q-i:Nat):Int))/\(Zc7 (((i+1:Nat):Int),s',o,())).val=some (Go1.cont ((i:Int),s2,o++x,())):=by
     simp only[Zc7,RT.val,List.length_cons,List.length_nil,Nat.reduceAdd,d,w,k0,k1,k2,k3,k4,k5,k6,k7,k8,k9,ka,r1,r2,r3,q1,q2,q3,q4,cond_true,Bool.not_true,Bool.false_or,Bool.or_true,Bool.or_false]
     cases (Zd s' 8).1==0
     ·cases (Zd s' 8).1==1
      ·cases (Zd s' 8).1==2
       ·cases (Zd s' 8).1==3
        ·exact⟨_,[(Zau (Zd s' 8).2).1,IntKind.wrap .u8 (Zd (Zau (Zd s' 8).2).2 64).1,R.get (R.int .u8) [0,0,1,255] (Zd (Zd (Zau (Zd s' 8).2).2 64).2 4).1],by simp,ba.up (by omega),rfl⟩
        ·exact⟨_,[62,IntKind.wrap .u8 (IntKind.wrap .i64 (16+(Zd (Zd s' 8).2 16).1)),211,0,62,(ZcT (Zd (Zd s' 8).2 16).2).1,211,1,62,0,211,1],by simp,b7.up (by omega),rfl⟩
       ·exact⟨_,[251],by simp,b0.up (by omega),rfl⟩
      ·exact⟨_,[62,(ZcT (Zd s' 8).2).1,211,IntKind.wrap .u8 (Zd (ZcT (Zd s' 8).2).2 8).1],by simp,b5.up (by omega),rfl⟩
     ·exact⟨_,[R.get (R.int .u8) [33,49,1,17] (Zd (Zd s' 8).2 4).1,IntKind.wrap .u8 (Zd (Zd (Zd s' 8).2 4).2 256).1,R.get (R.int .u8) [0,0,1,255] (Zd (Zd (Zd (Zd s' 8).2 4).2 256).2 4).1],by simp,b3.up (by omega),rfl⟩
    obtain⟨s2,x,hx,hs2,hv⟩:=hv
    exact⟨_,hv,⟨i,s2,o++x,by omega,hs2,by rw[List.length_append];omega,rfl⟩,by simp only;omega⟩)
  ((q:Int),s1,[],()) ⟨q,s1,[],Nat.le_refl _,by simpa using b1,by simp,rfl⟩ (by simp only;omega)
 obtain⟨r1,r2⟩:=r
 simp only at h1 hR
 subst h1 hR
 have hv:(Zgt s (n:Int)).val=some (o,s'):=by
  simp only[Zgt,RT.val,w0,c1,hq,<-hs1,hr,okB,getO,cond_true]
 simp only[Zgu,Zcc,hv,okB,getO]
 exact⟨trivial,hs'.up (by omega),by omega⟩
theorem ZyB (t:Int) (b:List Int):(ZpW t b).length<=b.length:=by
 have:=Zcl (Zo2 t b b.length)
 rw[Zo1] at this
 exact this
theorem ZQq {s:List Int×Int} {k:Int} (h:NB s k) (hk:k<=300000):ZhP s=true/\NB (ZdD s).2 (k+20):=by
 obtain⟨c1,b1,_⟩:=Zy h (by omega) 64 (by decide) (by decide)
 obtain⟨c2,b2,_⟩:=Zy b1 (by omega) 256 (by decide) (by decide)
 obtain⟨c3,b3,_⟩:=ZjW b1 (by omega)
 obtain⟨f1,g1⟩:=ZiR b1 (by omega)
 obtain⟨f2,g2⟩:=ZiR g1 (by omega)
 obtain⟨f3,g3⟩:=ZiR g2 (by omega)
 obtain⟨f4,g4⟩:=ZiR g3 (by omega)
 obtain⟨f5,g5⟩:=ZiR g4 (by omega)
 obtain⟨c4,b4,_⟩:=Zy g5 (by omega) 256 (by decide) (by decide)
 obtain⟨c5,b5,_⟩:=Zy b4 (by omega) 256 (by decide) (by decide)
 have hv:∃c s',(ZoJ s).val=some (c,s')/\NB s' (k+20):=by
  simp only[ZoJ,RT.val,c1,c2,c3,c4,c5,f1,f2,f3,f4,f5,cond_true,Bool.not_true,Bool.false_or,Bool.or_true,Bool.or_false]
  cases decide ((Zd s 64).1<30) with
  |true=>exact⟨_,_,rfl,b1.up (by omega)⟩
  |false=>
  cases decide ((Zd s 64).1<36) with
  |true=>exact⟨_,_,rfl,b1.up (by omega)⟩
  |false=>
  cases decide ((Zd s 64).1<40) with
  |true=>exact⟨_,_,rfl,b1.up (by omega)⟩
  |false=>
  cases decide ((Zd s 64).1<46) with
  |true=>exact⟨_,_,rfl,b2.up (by omega)⟩
  |false=>
  cases decide ((Zd s 64).1<50) with
  |true=>exact⟨_,_,rfl,b1.up (by omega)⟩
  |false=>
  cases decide ((Zd s 64).1<53) with
  |true=>exact⟨_,_,rfl,b1.up (by omega)⟩
  |false=>
  cases decide ((Zd s 64).1<55) with
  |true=>exact⟨_,_,rfl,b1.up (by omega)⟩
  |false=>
  cases ((Zd s 64).1==55) with
  |true=>exact⟨_,_,rfl,b1.up (by omega)⟩
  |false=>
  cases decide ((Zd s 64).1<60) with
  |true=>exact⟨_,_,rfl,b3.up (by omega)⟩
  |false=>exact⟨_,_,rfl,b5.up (by omega)⟩
 obtain⟨c,s',hv,h1⟩:=hv
 simp only[ZhP,ZdD,hv,okB,getO]
 exact⟨trivial,h1⟩
theorem ZY8 (s:List Int×Int) (z:Int) (c:INPT) (kk:Nat) (hk:kk<300) (o:List INPT) (size:Nat) (ho:o.length<=size) (hz:size<=300):
  ∃k2 o2,runF false ZdW (λ_=>400) ((size:Int),(kk:Int),s,c,o,())=some (false,(size:Int),k2,s,c,o2,())/\o2.length<=size/\o.length<=o2.length/\(o.length<size->o.length<o2.length):=by
 have hms:=mst
 obtain⟨r,hr,h1,k2,o2,e1,e2,e3,e4⟩:=ZN (fl:=false) (t:=ZdW) (fuel:=λ_=>400)
  (λa=>∃(j:Nat) (o2:List INPT),j<=kk+1/\o2.length<=size/\o.length<=o2.length/\(j=kk+1\/o.length<o2.length)/\a=((size:Int),(j:Int)-1,s,c,o2,()))
  (λa=>Int.toNat (a.2.1+1)) (λr=>r.1=false/\∃k2 o2,r.2=((size:Int),k2,s,c,o2,())/\o2.length<=size/\o.length<=o2.length/\(o.length<size->o.length<o2.length))
  (by
   rintro a ⟨j,o2,hj,h2,h3,h4,rfl⟩
   have w:∀j:Nat,j<=1000->IntKind.wrap .i64 (((j:Nat):Int)-1-1)=(j:Int)-1-1:=λj hj=>wrap_i64 _ (by omega) (by omega)
   by_cases hc:1<=j/\o2.length<size
   ·left
    have d1:decide (((j:Nat):Int)-1>=0)=true:=decide_eq_true (by omega)
    have d2:decide (iN o2.length<(size:Int))=true:=decide_eq_true (by simp only[iN];omega)
    have hb:Nat.ble (o2++[c]).length most=true:=ZaF (by simp;omega)
    refine⟨((size:Int),(j:Int)-1-1,s,c,o2++[c],()),?_,⟨j-1,o2++[c],by omega,by simp;omega,by simp;omega,by right;simp;omega,?_⟩,by simp only;omega⟩
    ·simp only[ZdW,RT.val,d1,d2,hb,Bool.and_self,cond_true,w j (by omega)]
    ·have:((j:Nat):Int)-1=((j-1:Nat):Int):=by omega
     rw[this]
   ·right;left
    have d:(decide (((j:Nat):Int)-1>=0)&&decide (iN o2.length<(size:Int)))=false:=by
     simp only[iN,Bool.and_eq_false_iff,decide_eq_false_iff_not]
     omega
    exact⟨((size:Int),(j:Int)-1,s,c,o2,()),by simp only[ZdW,RT.val,d,cond_false],rfl,_,o2,rfl,h2,h3,λh=>by
     rcases h4 with h4|h4
     ·omega
     ·exact h4⟩)
  ((size:Int),(kk:Int),s,c,o,()) ⟨kk+1,o,Nat.le_refl _,ho,Nat.le_refl _,.inl rfl,by
   have:(kk:Int)=((kk+1:Nat):Int)-1:=by omega
   rw[<-this]⟩ (by simp only;omega)
 obtain⟨r1,r2⟩:=r
 simp only at h1 e1
 subst h1 e1
 exact⟨k2,o2,hr,e2,e3,e4⟩
theorem ZKh {s:List Int×Int} {k:Int} (h:NB s k) (hk:k<=100000) (n:Nat) (hn:n<=250):
  ZiQ s (n:Int)=true/\NB (Zaj s (n:Int)).2 (k+1+30*n)/\(Zaj s (n:Int)).1.length<=n:=by
 have hms:=mst
 have w0:IntKind.wrap .i64 ((n:Int)+1)=(n:Int)+1:=wrap_i64 _ (by omega) (by omega)
 obtain⟨c1,b1,d0,d1⟩:=Zy h (by omega) ((n:Int)+1) (by omega) (by omega)
 obtain⟨s1,hs1⟩:∃s1,s1=(Zd s ((n:Int)+1)).2:=⟨_,rfl⟩
 obtain⟨q,hq⟩:∃q:Nat,(Zd s ((n:Int)+1)).1=(q:Int):=⟨_,(Int.toNat_of_nonneg d0).symm⟩
 rw[<-hs1] at b1
 obtain⟨r,hr,h1,s',o,hs',ho,hR⟩:=ZN (fl:=false) (t:=Ze2) (fuel:=λa=>400)
  (λa=>∃(s':List Int×Int) (o:List INPT),NB s' (k+1+30*(o.length:Int))/\o.length<=q/\a=((q:Int),s',o,()))
  (λa=>Int.toNat a.1-a.2.2.1.length) (λr=>r.1=false/\∃(s':List Int×Int) (o:List INPT),NB s' (k+1+30*(q:Int))/\o.length<=q/\r.2=((q:Int),s',o,()))
  (by
   rintro a ⟨s',o,hs',ho,rfl⟩
   by_cases hc:o.length<q
   ·left
    have d:decide (iN o.length<(q:Int))=true:=decide_eq_true (by simp only[iN];omega)
    obtain⟨i1,g1⟩:=ZQq hs' (by omega)
    obtain⟨i2,g2,m0,m1⟩:=Zy g1 (by omega) 4 (by decide) (by decide)
    obtain⟨i3,g3,m2,m3⟩:=Zy g2 (by omega) 5 (by decide) (by decide)
    obtain⟨x,hx⟩:∃x:Nat,(Zd (ZdD s').2 4).1=(x:Int):=⟨_,(Int.toNat_of_nonneg m0).symm⟩
    obtain⟨y,hy⟩:∃y:Nat,(Zd (Zd (ZdD s').2 4).2 5).1=(y:Int):=⟨_,(Int.toNat_of_nonneg m2).symm⟩
    have hxy:x*y<=3*4:=Nat.mul_le_mul (by omega) (by omega)
    have w:IntKind.wrap .i64 ((x:Int)*(y:Int))=((x*y:Nat):Int):=by
     rw[show (x:Int)*(y:Int)=((x*y:Nat):Int) by simp,wrap_i64 _ (by omega) (by omega)]
    obtain⟨k2,o2,hr,e2,e3,e4⟩:=ZY8 (Zd (Zd (ZdD s').2 4).2 5).2 0 (ZdD s').1 (x*y) (by omega) o q ho (by omega)
    have e5:=e4 hc
    refine⟨((q:Int),(Zd (Zd (ZdD s').2 4).2 5).2,o2,()),?_,⟨_,o2,g3.up (by omega),e2,rfl⟩,by simp only;omega⟩
    simp only[Ze2,RT.val,d,i1,i2,i3,hx,hy,w,hr,okB,getO,cond_true,Bool.not_true,Bool.false_or,Bool.or_true,Bool.or_false]
   ·right;left
    have d:decide (iN o.length<(q:Int))=false:=decide_eq_false (by simp only[iN];omega)
    exact⟨_,by simp only[Ze2,RT.val,d,cond_false],rfl,s',o,hs'.up (by omega),ho,rfl⟩)
  ((q:Int),s1,[],()) ⟨s1,[],by simpa using b1,by simp,rfl⟩ (by simp only[List.length_nil];omega)
 obtain⟨r1,r2⟩:=r
 simp only at h1 hR
 subst h1 hR
 have hv:(ZiP s (n:Int)).val=some (o,s'):=by
  simp only[ZiP,RT.val,w0,c1,hq,<-hs1,hr,okB,getO,cond_true]
 simp only[ZiQ,Zaj,hv,okB,getO]
 exact⟨trivial,hs'.up (by omega),by omega⟩
theorem Zyi {s:List Int×Int} {k:Int} (h:NB s k) (hk:k<=10000):
  ZoO s=true/\NB (Zak s).2 (k+300)/\(∃s1,NB s1 (k+1)/\(Zak s).1.2.1=(nMap s1).1)/\((Zak s).1.1=1\/(Zak s).1.1=2)/\
   (0<=(Zak s).1.2.2.1/\(Zak s).1.2.2.1<=2)/\∃l:List Cell,l.length<=200/\(Zak s).1.2.2.2.2.2.2=normX l:=by
 have hms:=mst
 obtain⟨c0,b0,hch⟩:=ZT4 h (by omega)
 obtain⟨c1,b1,l1⟩:=ZC9 b0 (by omega)
 obtain⟨c2,b2,w0,w1⟩:=Zy b1 (by omega) 3 (by decide) (by decide)
 obtain⟨c3,b3,_⟩:=Zy b2 (by omega) 4 (by decide) (by decide)
 obtain⟨c4,b4,_⟩:=Zy b3 (by omega) 6 (by decide) (by decide)
 obtain⟨c5,b5,_⟩:=Zlv b4 (by omega)
 obtain⟨c6,b6,_⟩:=Zlv b5 (by omega)
 obtain⟨s2,hs2,b7⟩:∃s2,s2=((bif (Zd (Zd (Zd (nMap (Za4 s).2).2 3).2 4).2 6).1==0 then (ZcT (ZcT (Zd (Zd (Zd (nMap (Za4 s).2).2 3).2 4).2 6).2).2).2.1 else (Zd (Zd (Zd (nMap (Za4 s).2).2 3).2 4).2 6).2.1,
   bif (Zd (Zd (Zd (nMap (Za4 s).2).2 3).2 4).2 6).1==0 then (ZcT (ZcT (Zd (Zd (Zd (nMap (Za4 s).2).2 3).2 4).2 6).2).2).2.2 else (Zd (Zd (Zd (nMap (Za4 s).2).2 3).2 4).2 6).2.2):List Int×Int)/\NB s2 (k+30):=by
  refine⟨_,rfl,?_⟩
  cases (Zd (Zd (Zd (nMap (Za4 s).2).2 3).2 4).2 6).1==0
  ·exact b4.up (by omega)
  ·exact b6.up (by omega)
 obtain⟨c8,b8,l8⟩:=ZC5 b7 (by omega) 12 (by omega)
 have c8:Zgu s2 12=true:=c8
 have b8:NB (Zcc s2 12).2 (k+30+1+10*((12:Nat):Int)):=b8
 have l8:(Zcc s2 12).1.length<=12*12:=l8
 obtain⟨c9,b9,d0,d1⟩:=Zy b8 (by omega) 4 (by decide) (by decide)
 have hl:=ZyB 0 (Zcc s2 12).1
 obtain⟨q,hq⟩:∃q:Nat,(Zd (Zcc s2 12).2 4).1=(q:Int):=⟨_,(Int.toNat_of_nonneg d0).symm⟩
 have hg:∀l:List Cell,Stg.l (newG ZgW ZgX l)=l:=λ_=>rfl
 have key:∀x y z:BRDT,∀o:List Cell,o.length<=144->∃s' o',NB s' (k+200)/\o'.length<=200/\
   runF false Ze3 (λ_=>400) ((q:Int),(Zd (Zcc s2 12).2 4).2,x,y,o,())=some (false,0,s',x,y,o',()):=by
  intro x y z o ho
  obtain⟨r,hr,h1,s',o',g1,g2,g3⟩:=ZN (fl:=false) (t:=Ze3) (fuel:=λ_=>400)
   (λa=>∃(i:Nat) (s':List Int×Int) (o:List Cell),i<=q/\NB s' (k+30+1+10*((12:Nat):Int)+1+4*((q-i:Nat):Int))/\o.length<=144+3*(q-i)/\a=((i:Int),s',x,y,o,()))
   (λa=>Int.toNat a.1) (λr=>r.1=false/\∃s' o',NB s' (k+200)/\o'.length<=200/\r.2=(0,s',x,y,o',()))
   (by
    rintro a ⟨i,s',o,hi,hs',ho,rfl⟩
    cases i with
    |zero=>
     right;left
     exact⟨_,by simp only[Ze3,RT.val];rfl,rfl,s',o,hs'.up (by omega),by omega,rfl⟩
    |succ i=>
     left
     have d:decide (((i+1:Nat):Int)>0)=true:=decide_eq_true (by omega)
     have w:IntKind.wrap .i64 (((i+1:Nat):Int)-1)=(i:Int):=by rw[wrap_i64 _ (by omega) (by omega)];omega
     obtain⟨k0,b0,e0,e1⟩:=Zy hs' (by omega) 6 (by decide) (by decide)
     obtain⟨k1,b1,_⟩:=ZjW b0 (by omega)
     have r1:Zf (Zd s' 6).1 6=true:=ZK.2 ⟨e0,e1⟩
     have hsb:∀a b c:Int,smB [a,b,c]=true:=λa b c=>ZVg (by simp)
     have hll:=ZyB (IntKind.wrap .u16 (R.get (R.int .i64) [36,60,52,44,56,32] (Zd s' 6).1)) [(Zau (Zd s' 6).2).1,251,201]
     simp only[List.length_cons,List.length_nil] at hll
     have hb:Nat.ble (o++ZpW (IntKind.wrap .u16 (R.get (R.int .i64) [36,60,52,44,56,32] (Zd s' 6).1)) [(Zau (Zd s' 6).2).1,251,201]).length most=true:=ZaF (by rw[List.length_append];omega)
     refine⟨((i:Int),(Zau (Zd s' 6).2).2,x,y,o++ZpW (IntKind.wrap .u16 (R.get (R.int .i64) [36,60,52,44,56,32] (Zd s' 6).1)) [(Zau (Zd s' 6).2).1,251,201],()),?_,⟨i,_,_,by omega,b1.up (by omega),by rw[List.length_append];omega,rfl⟩,by simp only;omega⟩
     simp only[Ze3,RT.val,hg,List.length_cons,List.length_nil,Nat.reduceAdd,d,w,k0,k1,r1,hsb,hb,cond_true,Bool.not_true,Bool.false_or,Bool.or_true,Bool.or_false])
   ((q:Int),(Zd (Zcc s2 12).2 4).2,x,y,o,()) ⟨q,_,o,Nat.le_refl _,b9.up (by omega),by omega,rfl⟩ (by simp only;omega)
  obtain⟨r1,r2⟩:=r
  simp only at h1 g3
  subst h1 g3
  exact⟨s',o',g1,g2,hr⟩
 obtain⟨s',o',g1,g2,hr⟩:=key (0,[],0,0,0,false,[]) ((Za4 s).1,(nMap (Za4 s).2).1,(Zd (nMap (Za4 s).2).2 3).1,bif (Zd (Zd (Zd (nMap (Za4 s).2).2 3).2 4).2 6).1==0 then (ZcT (Zd (Zd (Zd (nMap (Za4 s).2).2 3).2 4).2 6).2).1 else 0,
  bif (Zd (Zd (Zd (nMap (Za4 s).2).2 3).2 4).2 6).1==0 then (ZcT (ZcT (Zd (Zd (Zd (nMap (Za4 s).2).2 3).2 4).2 6).2).2).1 else 4,(Zd (Zd (nMap (Za4 s).2).2 3).2 4).1==0,[]) (0,[],0,0,0,false,[]) (ZpW 0 (Zcc s2 12).1) (by omega)
 have hsc:smC o'=true:=ZZQ (by omega)
 have hsb:smB (Zcc s2 12).1=true:=ZVg (by omega)
 have hv:∃p d,(ZoN s).val=some (((Za4 s).1,(nMap (Za4 s).2).1,(Zd (nMap (Za4 s).2).2 3).1,p,d,(Zd (Zd (nMap (Za4 s).2).2 3).2 4).1==0,normX o'),s'):=by
  refine⟨bif (Zd (Zd (Zd (nMap (Za4 s).2).2 3).2 4).2 6).1==0 then (ZcT (Zd (Zd (Zd (nMap (Za4 s).2).2 3).2 4).2 6).2).1 else 0,
   bif (Zd (Zd (Zd (nMap (Za4 s).2).2 3).2 4).2 6).1==0 then (ZcT (ZcT (Zd (Zd (Zd (nMap (Za4 s).2).2 3).2 4).2 6).2).2).1 else 4,?_⟩
  simp only[ZoN,RT.val,hg,<-hs2,c0,c1,c2,c3,c4,c5,c6,c8,c9,hsb,hq,hr,hsc,okB,getO,cond_true,Bool.not_true,Bool.false_or,Bool.or_true,Bool.or_false]
 obtain⟨p,d,hv⟩:=hv
 have e1:ZoO s=true:=by simp only[ZoO,hv];rfl
 have e2:Zak s=(((Za4 s).1,(nMap (Za4 s).2).1,(Zd (nMap (Za4 s).2).2 3).1,p,d,(Zd (Zd (nMap (Za4 s).2).2 3).2 4).1==0,normX o'),s'):=by simp only[Zak,hv,getO]
 rw[e2]
 exact⟨e1,g1.up (by omega),⟨_,b0,rfl⟩,hch,⟨w0,by show (Zd (nMap (Za4 s).2).2 3).1<=2;omega⟩,o',g2,rfl⟩
theorem ZWX (s:Int) {l:Int} (h:0<=l):vOnC s l=true:=by
 simp only[vOnC,vOnT,RT.val,decide_eq_true h,cond_true,okB]
theorem ZrZ (s k:Int):Zqb s k=true/\ -1<=ZhA s k/\ZhA s k<=7:=by
 obtain⟨r,hr,h0,h1,h2⟩:=ZN (fl:=false) (t:=Zia) (fuel:=λ_=>9)
  (λa=>∃(i:Nat) (m:Int),i<=8/\ -1<=m/\m<=7/\a=(s,k,m,(i:Int),()))
  (λa=>Int.toNat (8-a.2.2.2.1)) (λr=>r.1=false/\ -1<=r.2.2.2.1/\r.2.2.2.1<=7)
  (by
   rintro a ⟨i,m,hi,h1,h2,rfl⟩
   by_cases hlt:i<8
   ·left
    have d:decide ((i:Int)<8)=true:=decide_eq_true (by omega)
    have w:IntKind.wrap .i64 ((i:Int)+1)=((i+1:Nat):Int):=by rw[wrap_i64 _ (by omega) (by omega)];omega
    have c:vOnC s (i:Int)=true:=ZWX s (by omega)
    refine⟨(s,k,bif vOn s (i:Int)&&(decide (m<0)||decide (Zjn (i:Int) k<Zjn m k)) then (i:Int) else m,((i+1:Nat):Int),()),by simp only[Zia,RT.val,d,c,w,cond_true],⟨i+1,_,by omega,?_,?_,rfl⟩,by simp only;omega⟩
    ·cases vOn s (i:Int)&&(decide (m<0)||decide (Zjn (i:Int) k<Zjn m k))<;>simp only[cond_true,cond_false]<;>omega
    ·cases vOn s (i:Int)&&(decide (m<0)||decide (Zjn (i:Int) k<Zjn m k))<;>simp only[cond_true,cond_false]<;>omega
   ·right;left
    have d:decide ((i:Int)<8)=false:=decide_eq_false (by omega)
    exact⟨(s,k,m,(i:Int),()),by simp only[Zia,RT.val,d,cond_false],rfl,h1,h2⟩)
  (s,k,-1,0,()) ⟨0,-1,by omega,by omega,by omega,rfl⟩ (by simp only;omega)
 obtain⟨r1,r2⟩:=r
 simp only at h0 h1 h2
 subst h0
 have hv:(Zwq s k).val=some r2.2.2.1:=by simp only[Zwq,RT.val,hr,okB,getO,cond_true]
 exact⟨by simp only[Zqb,hv];rfl,by simp only[ZhA,hv,getO];exact h1,by simp only[ZhA,hv,getO];exact h2⟩
theorem Zzz (p:PICT):ZHC p=true/\ -1<=vPck p/\vPck p<=7:=by
 have key:∀r m s k q,∃v:Int,(Zwp r m s k q).val=some v/\ -1<=v/\v<=7:=by
  intro r m s k q
  have h1:=ZrZ (Zcy .u8 r m) k
  have h2:=ZrZ (Zko m s q) k
  simp only[Zwp,RT.val,h1.1,h2.1,cond_true]
  cases decide (ZhA (Zcy .u8 r m) k>=0)&&(decide (ZhA (Zko m s q) k<0)||decide (Zjn (ZhA (Zcy .u8 r m) k) k<Zjn (ZhA (Zko m s q) k) k))
  ·exact⟨-1,rfl,by omega,by omega⟩
  ·exact⟨_,rfl,h1.2.1,h1.2.2⟩
 obtain⟨v,hv,h1,h2⟩:=key (vReq p) p.2.2.2.2.2.2.2.2.2.2.2.2.2.2.2.1 p.2.2.2.2.2.2.2.2.2.2.2.2.2.2.1 p.2.2.2.2.2.2.2.2.2.2.2.2.2.2.2.2.1 p.2.2.2.2.2.2.2.2.2.1
 have e:(ZLH p).val=some v:=by simp only[ZLH,RT.val,ZLG,ZWV,hv,okB,getO,cond_true]
 exact⟨by simp only[ZHC,e];rfl,by simp only[vPck,e,getO];exact h1,by simp only[vPck,e,getO];exact h2⟩
theorem ZW0 (p:PICT):ZSf p=true:=by simp only[ZSf,ZSe,RT.val,(Zzz p).1,cond_true,okB]
theorem ZEg (p:PICT) {x:Int} (h:0<=x):ZlT p x=true:=by simp only[ZlT,ZEh,RT.val,decide_eq_true h,cond_true,okB]
theorem ZEx (p:PICT) {x:Int} (h:0<=x):ZlX p x=true:=by simp only[ZlX,ZEy,RT.val,decide_eq_true h,cond_true,okB]
theorem ZW3 (p:PICT):ZSi p=true:=by
 have h1:=(Zzz p).1
 have h3:∀q:PICT,ZlX q (andI .i64 p.2.2.2.2.2.2.2.2.2.2.2.2.2.2.2.2.2.2.1 7)=true:=λq=>ZEx q (and7 _).1
 have h2:∀q:PICT,(!decide (vPck p>=0)||ZlT q (vPck p))=true:=λq=>by
  by_cases h:vPck p>=0
  ·rw[ZEg q h,Bool.or_true]
  ·rw[decide_eq_false h];rfl
 unfold ZSi ZSh
 simp only[RT.val,h1,h2,h3,Bool.or_true,cond_true]
 cases p.2.2.2.2.2.2.2.2.2.2.2.2.2.2.2.2.2.1==0
 ·cases p.2.2.2.2.2.2.2.2.2.2.2.2.2.2.2.2.2.1==1
  ·rfl
  ·cases p.2.2.1<;>rfl
 ·rfl
theorem ZR8 (p:PICT) (h:Bool):ZEk p h=true:=by
 have h1:=(Zzz p).1
 unfold ZEk ZEi
 by_cases hx:0<=vPck p
 ·have h2:∀q:PICT,ZlT q (vPck p)=true:=λq=>ZEg q hx
  have h3:∀q:PICT,ZlX q (vPck p)=true:=λq=>ZEx q hx
  simp only[RT.val,h1,h2,h3,Zeh,ZcJ,Bool.or_true,Bool.not_true,cond_true]
  cases h
  ·cases p.2.2.2.2.2.2.2.2.2.2.2.1
   ·cases p.2.2.2.2.2.2.2.2.2.2.1<;>rfl
   ·cases decide (vPck p<0)<;>rfl
  ·rfl
 ·have h2:decide (vPck p<0)=true:=decide_eq_true (by omega)
  simp only[RT.val,h1,h2,Zeh,ZcJ,Bool.or_true,Bool.true_or,Bool.not_true,cond_true]
  cases h
  ·cases p.2.2.2.2.2.2.2.2.2.2.2.1
   ·cases p.2.2.2.2.2.2.2.2.2.2.1<;>rfl
   ·rfl
  ·rfl
theorem ZSd (p:PICT) (v:Int):ZEq p v=true:=by
 have h1:=λs k=>(ZrZ s k).1
 have h2:∀x:Int,(!decide (x>=0)||decide (0<=x))=true:=λx=>by by_cases h:0<=x<;>simp[h]
 have h3:decide (0<=IntKind.wrap .i64 (andI .u8 v 7))=true:=by
  have:=and7b v
  rw[wrap_i64 _ (by omega) (by omega)];exact decide_eq_true this.1
 unfold ZEq ZEp
 simp only[RT.val,h1,h2,h3,Zeh,ZcJ,Bool.or_true,Bool.not_true,cond_true]
 rfl
theorem ZLp (p:PICT) (h:Bool) (v:Int):ZrU p h v=true:=by
 unfold ZrU ZrS
 simp only[RT.val,ZSd,Bool.or_true,cond_true]
 cases h
 ·cases andI .u8 v 16 !=0
  ·cases andI .u8 v 8==0<;>rfl
  ·rfl
 ·rfl
theorem ZLx (d:QT7) (r:Int):ZrX d r=true:=by
 have h:=and3 r
 have h1:decide (0<=andI .i64 r 3/\andI .i64 r 3<4)=true:=decide_eq_true ⟨h.1,by omega⟩
 simp only[ZrX,ZrV,RT.val,h1,cond_true,okB]
theorem Zey (o:Bool) {n:Int} (h:0<=n):Zfh o n=true:=by
 simp only[Zfh,ZR6,RT.val,decide_eq_true h,Bool.or_true,cond_true]
 cases o<;>rfl
theorem ZHz (l:List INPT) (hl:l.length<=1000):ZD5 l=true/\(ZlL l).length=4*l.length:=by
 have hms:=mst
 obtain⟨r,hr,h0,h1⟩:=ZN (fl:=false) (t:=ZdS) (fuel:=λ_=>1000000000000)
  (λa=>∃(i:Nat) (o:List Int),i<=l.length/\o.length=4*i/\a=(l,(l.length:Int),(i:Int),o,()))
  (λa=>Int.toNat (a.2.1-a.2.2.1)) (λr=>r.1=false/\r.2.2.2.2.1.length=4*l.length)
  (by
   rintro a ⟨i,o,hi,ho,rfl⟩
   by_cases hlt:i<l.length
   ·left
    have d:decide ((i:Int)<(l.length:Int))=true:=decide_eq_true (by omega)
    have d2:decide ((i:Int)>=65536)=false:=decide_eq_false (by omega)
    have hin:Zf (i:Int) l.length=true:=ZK.2 ⟨by omega,by omega⟩
    have w:IntKind.wrap .i64 ((i:Int)+1)=((i+1:Nat):Int):=by rw[wrap_i64 _ (by omega) (by omega)];omega
    have hb:∀a b c d:Int,Nat.ble (o++[a,b,c,d]).length most=true:=λa b c d=>ZaF (by simp;omega)
    have b0:=λx=>Zey x (n:=0) (by decide)
    have b1:=λx=>Zey x (n:=1) (by decide)
    have b2:=λx=>Zey x (n:=2) (by decide)
    have b3:=λx=>Zey x (n:=3) (by decide)
    have b4:=λx=>Zey x (n:=4) (by decide)
    have b5:=λx=>Zey x (n:=5) (by decide)
    have b6:=λx=>Zey x (n:=6) (by decide)
    have b7:=λx=>Zey x (n:=7) (by decide)
    have hv:∃a b c d:Int,(ZdS (l,(l.length:Int),(i:Int),o,())).val=some (Go1.cont (l,(l.length:Int),((i+1:Nat):Int),o++[a,b,c,d],())):=by
     simp only[ZdS,RT.val,d,d2,hin,w,hb,b0,b1,b2,b3,b4,b5,b6,b7,Zeh,ZcJ,Bool.or_true,Bool.not_true,Bool.false_or,Bool.or_false,cond_true,cond_false]
     exact⟨_,_,_,_,rfl⟩
    obtain⟨a,b,c,d,hv⟩:=hv
    exact⟨_,hv,⟨i+1,_,by omega,by simp;omega,rfl⟩,by simp only;omega⟩
   ·right;left
    have d:decide ((i:Int)<(l.length:Int))=false:=decide_eq_false (by omega)
    exact⟨(l,(l.length:Int),(i:Int),o,()),by simp only[ZdS,RT.val,d,cond_false],rfl,by simp only;omega⟩)
  (l,(l.length:Int),0,[],()) ⟨0,[],by omega,rfl,rfl⟩ (by simp only;omega)
 obtain⟨r1,r2⟩:=r
 simp only at h0 h1
 subst h0
 have hv:(ZgK l).val=some r2.2.2.2.1:=by simp only[ZgK,RT.val,iN,hr,okB,getO,cond_true]
 exact⟨by simp only[ZD5,hv];rfl,by simp only[ZlL,hv,getO];exact h1⟩
theorem Zp3 (l:List Int) (hl:l.length<=4000):Zk0 l=true/\(Zbj l).length=l.length/4:=by
 have hms:=mst
 obtain⟨r,hr,h0,h1⟩:=ZN (fl:=false) (t:=Zc1) (fuel:=λ_=>1000000000000)
  (λa=>∃(i:Nat) (o:List INPT),4*i<=l.length/\o.length=i/\a=(l,((4*i:Nat):Int),o,()))
  (λa=>Int.toNat (l.length-a.2.1)) (λr=>r.1=false/\r.2.2.2.1.length=l.length/4)
  (by
   rintro a ⟨i,o,hi,ho,rfl⟩
   have w1:IntKind.wrap .i64 (((4*i:Nat):Int)+1)=((4*i+1:Nat):Int):=by rw[wrap_i64 _ (by omega) (by omega)];omega
   have w2:IntKind.wrap .i64 (((4*i:Nat):Int)+2)=((4*i+2:Nat):Int):=by rw[wrap_i64 _ (by omega) (by omega)];omega
   have w3:IntKind.wrap .i64 (((4*i:Nat):Int)+3)=((4*i+3:Nat):Int):=by rw[wrap_i64 _ (by omega) (by omega)];omega
   have w4:IntKind.wrap .i64 (((4*i:Nat):Int)+4)=((4*(i+1):Nat):Int):=by rw[wrap_i64 _ (by omega) (by omega)];omega
   by_cases hlt:4*i+4<=l.length
   ·left
    have d:(decide (((4*(i+1):Nat):Int)<=iN l.length)&&decide (iN o.length<65536))=true:=by
     simp only[iN,Bool.and_eq_true,decide_eq_true_eq];omega
    have i0:Zf ((4*i:Nat):Int) l.length=true:=ZK.2 ⟨by omega,by omega⟩
    have i1:Zf ((4*i+1:Nat):Int) l.length=true:=ZK.2 ⟨by omega,by omega⟩
    have i2:Zf ((4*i+2:Nat):Int) l.length=true:=ZK.2 ⟨by omega,by omega⟩
    have i3:Zf ((4*i+3:Nat):Int) l.length=true:=ZK.2 ⟨by omega,by omega⟩
    have hb:∀a:INPT,Nat.ble (o++[a]).length most=true:=λa=>ZaF (by simp;omega)
    have hv:∃x:INPT,(Zc1 (l,((4*i:Nat):Int),o,())).val=some (Go1.cont (l,((4*(i+1):Nat):Int),o++[x],())):=by
     simp only[Zc1,RT.val,w1,w2,w3,w4,d,i0,i1,i2,i3,hb,Zeh,ZcJ,Bool.or_true,Bool.not_true,Bool.false_or,Bool.or_false,cond_true,cond_false]
     cases R.get (R.int .u8) l ((4*i+3:Nat):Int) !=Zwi (R.get (R.int .u8) l ((4*i:Nat):Int)) (R.get (R.int .u8) l ((4*i+1:Nat):Int)) (R.get (R.int .u8) l ((4*i+2:Nat):Int))
     ·exact⟨_,rfl⟩
     ·exact⟨_,rfl⟩
    obtain⟨x,hv⟩:=hv
    exact⟨_,hv,⟨i+1,_,by omega,by simp;omega,rfl⟩,by simp only;omega⟩
   ·right;left
    have d:(decide (((4*(i+1):Nat):Int)<=iN l.length)&&decide (iN o.length<65536))=false:=by
     simp only[iN,Bool.and_eq_false_iff,decide_eq_false_iff_not];left;omega
    exact⟨(l,((4*i:Nat):Int),o,()),by simp only[Zc1,RT.val,w4,d,cond_false],rfl,by simp only;omega⟩)
  (l,0,[],()) ⟨0,[],by omega,rfl,rfl⟩ (by simp only;omega)
 obtain⟨r1,r2⟩:=r
 simp only at h0 h1
 subst h0
 have hv:(Zh5 l).val=some r2.2.2.1:=by simp only[Zh5,RT.val,hr,okB,getO,cond_true]
 exact⟨by simp only[Zk0,hv];rfl,by simp only[Zbj,hv,getO];exact h1⟩
abbrev MacT:=List Z1×List Cell×List Int×List (Int×Int)
theorem Zh2 (l:List Z1) (m:List Cell) (t v:Int):(Zbw l m t v).length<=m.length+1:=by
 have h:=Zcl m
 unfold Zbw
 cases decide (Zbu l t>=0)&&(R.get GR l (Zbu l t)).2.2.1
 ·exact Nat.le_trans h (Nat.le_succ _)
 ·exact Nat.le_trans (ZtR _ _) (by omega)
def pre (o:List (Int×Int)) (m:MacT):MacT:=(m.1,m.2.1,m.2.2.1,o++m.2.2.2)
def hits (c:CpuT) (s t:Int) (g:List Int):Bool:=(Zj c s g).2&&((Zj c s g).1.2.1==t&&((Zj c s g).1.1==3||(Zj c s g).1.1==5))
end
end Go.Proofs.YtghoimllhpjkjaaGreat
