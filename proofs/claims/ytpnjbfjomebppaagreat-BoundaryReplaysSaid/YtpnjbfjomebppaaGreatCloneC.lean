import Derived.Test.YtpnjbfjomebppaaGreatSortA
import Derived.Test.YtpnjbfjomebppaaGreatS3Nil
open Go.IntKind (u8 u16 i64)
set_option linter.unusedSimpArgs false
open Go Go.S3 Go.Proofs
set_option linter.unusedVariables false
set_option maxRecDepth 100000
namespace Go.Proofs.YtpnjbfjomebppaaGreat
noncomputable section
def ZYz:LS:={n:=58,Sl:=[(0,.tip 0),(2,.code (So Kc)),(4,.fix (A.clo 160 [])),(10,.code (So Kc)),(11,.code (So Kc))],Bx:=[],Sg:=[⟨R.Pq Kb Ka,75,false⟩],keep:=[0]}
def ZjU (a:QT10):RT (Option (Go1 (QT10))):=
 let x1:= !decide (a.2.1>a.2.2.1)||Zhw a.2.2.2.1 (i64.wrap (a.1-a.2.1)) a.1 a.2.2.1
 let x2:=i64.wrap (i64.wrap (a.1+a.2.2.1)-a.2.1)
 .br (a.2.1 !=a.2.2.1) (.br (!x1||(decide (a.2.1>a.2.2.1)||Zhw a.2.2.2.1 (i64.wrap (a.1-a.2.1)) x2 a.2.1)) (.br (x1) (Ls (Go1.cont (a.1,bif decide (a.2.1>a.2.2.1) then i64.wrap (a.2.1-a.2.2.1) else a.2.1,bif decide (a.2.1>a.2.2.1) then a.2.2.1 else i64.wrap (a.2.2.1-a.2.1),bif decide (a.2.1>a.2.2.1) then ZA1 a.2.2.2.1 (Int.toNat (i64.wrap (a.1-a.2.1))) (Int.toNat a.1) (Int.toNat a.2.2.1) else ZA1 a.2.2.2.1 (Int.toNat (i64.wrap (a.1-a.2.1))) (Int.toNat x2) (Int.toNat a.2.1),PUnit.unit))) Ln) Ln) (Ls (Go1.brk (a.1,a.2.1,a.2.2.1,a.2.2.2.1,PUnit.unit)))
def ZNB:Ora:=ZaB false ZYz ZjU (λa=>(a.2.1+a.2.2.1).toNat+1)
theorem ZNA:Zal (envX Tryz.prog [(388,ZAU),(160,ZbA)] [] 4095 8) (.block 0 (.loop (ZQ Tryz.f364.body 0))) ZNB:=
 loopP ⟨ZxE,Zav,Tv⟩
def ZNz (s:List (Int×Int)) (a:Int) (m:Int) (b:Int):RT (Option (List (Int×Int))):=
 let x1:QT10:=(m,i64.wrap (m-a),i64.wrap (b-m),Stg.l (Zde Zci ZsU s),())
 let x2:=runF false ZjU (λa_1=>Int.toNat (a_1.2.1+a_1.2.2.1)+1) x1
 let x3:QT10:=(getO (false,x1) x2).2
 let x4:=x3.2
 let x5:=x4.2.2.1
 let x6:=x3.1
 let x7:=x4.1
 let x8:=i64.wrap (x6-x7)
 .br (okB x2) (.br (Zhw x5 x8 x6 x7) (Ls (ZA1 x5 (Int.toNat x8) (Int.toNat x6) (Int.toNat x7))) Ln) Ln
def uRot (s:List (Int×Int)) (a:Int) (m:Int) (b:Int):List (Int×Int):=getO [] (ZNz s a m b).val
def Z1d (s:List (Int×Int)) (a:Int) (m:Int) (b:Int):Bool:=okB (ZNz s a m b).val
def uRotE:En:=stE Zci ZsU 160 ZAT (λa=>some (Z1d a.1 a.2.1 a.2.2.1 a.2.2.2)) (λa=>uRot a.1 a.2.1 a.2.2.1 a.2.2.2)
theorem ZYy:Za Tryz.prog 364 uRotE:=
 ZmL (P:=Tryz.prog) (n:=4095) (k:=8) (l:=[(388,ZAU),(160,ZbA)]) (ol:=[(0,ZNB)]) ⟨ZxE,Zav,Tv⟩ Tryz.func364 rfl (by kernel_rfl) Tryz.call364 ⟨ZNA,Tv⟩ (r:=Zci) (T:=ZsU) (g0:=160) (ts:=ZAT) (t:=λa=>ZNz a.1 a.2.1 a.2.2.1 a.2.2.2) (λa=>by kernel_rfl)
end
end Go.Proofs.YtpnjbfjomebppaaGreat
open Go Go.S3 Go.Proofs Go.Proofs.Cells
namespace Go.Proofs.YtpnjbfjomebppaaGreat
noncomputable section
theorem ZNR (l:List Cell) (a b n:Nat) (h1:a+n<=b) (h2:b+n<=l.length):Zhw l a b n=true:=by simp only[Zhw,Yb,Yk];omega
theorem ZA0 (A U M V B:List Cell) (a b n:Nat) (h:V.length=U.length) (ha:a=A.length) (hb:b=A.length+U.length+M.length) (hn:n=U.length):
  Zhw (A++U++M++V++B) a b n=true/\ZA1 (A++U++M++V++B) a b n=A++V++M++U++B:=by subst ha hb hn;exact⟨ZNR _ _ _ _ (by omega) (by simp;omega),ZF3 A U M V B h⟩
theorem mst:most=2199023255552:=rfl
theorem ZYO (X U V Y:List Cell) (hU:0<U.length) (hV:0<V.length) (hm:(X++U++V++Y).length<=most):
  (ZNz (X++U++V++Y) X.length (X.length+U.length:Nat) (X.length+U.length+V.length:Nat)).val=some (X++V++U++Y):=by
 have hms:=mst;simp only[Yd] at hm;obtain⟨r,hr,hR⟩:=ZC (fl:=false) (t:=ZjU) (fuel:=λa=>Int.toNat (a.2.1+a.2.2.1)+1)
  (I:=λa=>∃A U' V' B:List Cell,0<U'.length/\0<V'.length/\A.length+U'.length=X.length+U.length/\U'.length+V'.length<=U.length+V.length/\(A++U'++V'++B).length<=most/\A++V'++U'++B=X++V++U++Y/\a=(((X.length+U.length:Nat):Int),(U'.length:Int),(V'.length:Int),A++U'++V'++B,()))
  (m:=λa=>Int.toNat (a.2.1+a.2.2.1)) (R:=λr=>∃A U' V' B:List Cell,0<U'.length/\V'.length=U'.length/\A.length+U'.length=X.length+U.length/\(A++U'++V'++B).length<=most/\A++V'++U'++B=X++V++U++Y/\r.2=(((X.length+U.length:Nat):Int),(U'.length:Int),(V'.length:Int),A++U'++V'++B,()))
  (λa hi=>by
   obtain⟨A,U',V',B,h1,h2,h3,h4,h5,h6,rfl⟩:=hi;have h5':=h5;simp only[Yd] at h5';have w1:IntKind.wrap .i64 (((X.length+U.length:Nat):Int)-(U'.length:Int))=((A.length:Nat):Int):=by rw[wrap_i64 _ (by omega) (by omega)];omega
   by_cases he:U'.length=V'.length
   ·right;left;refine⟨_,?_,A,U',V',B,h1,he.symm,h3,h5,h6,rfl⟩;have d:(((U'.length:Nat):Int) !=(V'.length:Int))=false:=by simp[he]
    simp only[ZjU,RT.val,d,Yc]
   ·left;have d:(((U'.length:Nat):Int) !=(V'.length:Int))=true:=by simp;omega
    by_cases hlt:V'.length<U'.length
    ·obtain⟨U1,U2,rfl,hl⟩:=ZbN U' V'.length (by omega);simp only[Yd] at*;obtain⟨q1,q2⟩:=ZA0 A U1 U2 V' B A.length (X.length+U.length) V'.length (by omega) rfl (by omega) (by omega);have e0:A++(U1++U2)++V'++B=A++U1++U2++V'++B:=by simp
     have g:decide (((U1.length+U2.length:Nat):Int)>(V'.length:Int))=true:=by simp;omega
     have w2:IntKind.wrap .i64 (((U1.length+U2.length:Nat):Int)-(V'.length:Int))=(U2.length:Int):=by rw[wrap_i64 _ (by omega) (by omega)];omega
     refine⟨(((X.length+U.length:Nat):Int),(U2.length:Int),(V'.length:Int),(A++V')++U2++U1++B,()),?_,⟨A++V',U2,U1,B,by omega,by omega,by simp;omega,by omega,by simp;omega,by rw[<-h6];simp,by rw[hl]⟩,by simp;omega⟩;rw[e0];simp only[ZjU,RT.val,d,Ya,w1,g,q1,q2,Yg,Yj,Yt,w2,Int.toNat_natCast]
    ·obtain⟨V1,V2,rfl,hl⟩:=ZbN V' (V'.length-U'.length) (by omega);simp only[Yd] at*;obtain⟨q1,q2⟩:=ZA0 A U' V1 V2 B A.length (X.length+U.length+V1.length) U'.length (by omega) rfl (by omega) rfl;have e0:A++U'++(V1++V2)++B=A++U'++V1++V2++B:=by simp
     have g:decide (((U'.length:Nat):Int)>((V1.length+V2.length:Nat):Int))=false:=by simp;omega
     have w2:IntKind.wrap .i64 (((V1.length+V2.length:Nat):Int)-(U'.length:Int))=(V1.length:Int):=by rw[wrap_i64 _ (by omega) (by omega)];omega
     have w3:IntKind.wrap .i64 (IntKind.wrap .i64 (((X.length+U.length:Nat):Int)+((V1.length+V2.length:Nat):Int))-(U'.length:Int))=((X.length+U.length+V1.length:Nat):Int):=by rw[wrap_i64 (((X.length+U.length:Nat):Int)+_) (by omega) (by omega),wrap_i64 _ (by omega) (by omega)];omega
     have hl2:U'.length=V2.length:=by omega
     refine⟨(((X.length+U.length:Nat):Int),(U'.length:Int),(V1.length:Int),A++V2++V1++U'++B,()),?_,⟨A,V2,V1,U'++B,by omega,by omega,by omega,by omega,by simp;omega,by rw[<-h6];simp,by rw[hl2];simp⟩,by simp;omega⟩;rw[e0];simp only[ZjU,RT.val,d,Ya,w1,g,q1,q2,Yg,Ym,Yj,Yt,Yc,w2,w3,Int.toNat_natCast]
     )
  (((X.length+U.length:Nat):Int),(U.length:Int),(V.length:Int),X++U++V++Y,()) ⟨X,U,V,Y,hU,hV,rfl,by omega,by simp;omega,rfl,rfl⟩ (Yaw _)
 obtain⟨A,U',V',B,h1,h2,h3,h5,h6,hr2⟩:=hR;have h5':=h5;simp only[Yd] at h5';have w0:IntKind.wrap .i64 (((X.length+U.length:Nat):Int)-(X.length:Int))=(U.length:Int):=by rw[wrap_i64 _ (by omega) (by omega)];omega
 have w0':IntKind.wrap .i64 (((X.length+U.length+V.length:Nat):Int)-((X.length+U.length:Nat):Int))=(V.length:Int):=by rw[wrap_i64 _ (by omega) (by omega)];omega
 have w1:IntKind.wrap .i64 (((X.length+U.length:Nat):Int)-(U'.length:Int))=((A.length:Nat):Int):=by rw[wrap_i64 _ (by omega) (by omega)];omega
 obtain⟨q1,q2⟩:=ZA0 A U' [] V' B A.length (X.length+U.length) U'.length h2 rfl (by simp;omega) rfl;rw[YR] at q1 q2;simp only[ZNz,Zde,RT.val,w0,w0',hr,okB,getO,Ya,hr2,w1,q1,q2,Int.toNat_natCast,YR,h6]
def rotX (l:List Cell) (a m b:Nat):List Cell:=l.take a++(l.drop m).take (b-m)++(l.drop a).take (m-a)++l.drop b
theorem ZOd (X U V Y:List Cell):rotX (X++U++V++Y) X.length (X.length+U.length) (X.length+U.length+V.length)=X++V++U++Y:=by
 unfold rotX;have e1:(X++U++V++Y).take X.length=X:=by simp[Yo]
 have e2:((X++U++V++Y).drop (X.length+U.length)).take (X.length+U.length+V.length-(X.length+U.length))=V:=by
  have:X++U++V++Y=(X++U)++(V++Y):=by simp
  rw[this,Y9 (by simp),Yal (by omega)]
 have e3:((X++U++V++Y).drop X.length).take (X.length+U.length-X.length)=U:=by
  have:X++U++V++Y=X++(U++(V++Y)):=by simp
  rw[this,Y9 rfl,Yal (by omega)]
 have e4:(X++U++V++Y).drop (X.length+U.length+V.length)=Y:=Y9 (by simp;omega);rw[e1,e2,e3,e4]
theorem ZXr {α:Type} (l:List α) (a m b:Nat) (h1:a<=m) (h2:m<=b) (h3:b<=l.length):∃X U V Y:List α,l=X++U++V++Y/\X.length=a/\X.length+U.length=m/\X.length+U.length+V.length=b:=by obtain⟨X,l1,rfl,hX⟩:=ZbN l a (by omega);simp only[Yd] at h3;obtain⟨U,l2,rfl,hU⟩:=ZbN l1 (m-a) (by omega);simp only[Yd] at h3;obtain⟨V,Y,rfl,hV⟩:=ZbN l2 (b-m) (by omega);exact⟨X,U,V,Y,by simp,hX,by omega,by omega⟩
def ZiB (l:List Cell) (a m b:Int):Bool:=decide (0<=a)&&decide (a<m)&&decide (m<b)&&decide (b<=l.length)&&Nat.ble l.length most
def ZmD:En:=stE Zci ZsU 160 ZAT (λa=>some (ZiB a.1 a.2.1 a.2.2.1 a.2.2.2)) (λa=>rotX a.1 a.2.1.toNat a.2.2.1.toNat a.2.2.2.toNat)
theorem ZgV:Za Tryz.prog 364 ZmD:=Zf8 ZYy λa h1 h2 hp=>by
 obtain⟨l,a,m,b⟩:=a;have hp:ZiB l a m b=true:=by cases h:ZiB l a m b<;>simp_all
 simp only[ZiB,Yb,Yk,YP] at hp;obtain⟨⟨⟨⟨p1,p2⟩,p3⟩,p4⟩,p5⟩:=hp;obtain⟨a,rfl⟩:=YY p1;obtain⟨m,rfl⟩:=YY (show (0:Int)<=m by omega);obtain⟨b,rfl⟩:=YY (show (0:Int)<=b by omega);obtain⟨X,U,V,Y,rfl,rfl,rfl,rfl⟩:=ZXr l a m b (by omega) (by omega) (by omega);have:=ZYO X U V Y (by omega) (by omega) p5;simp only[Z1d,uRot,Int.toNat_natCast];rw[this,ZOd];simp[okB,getO]
def srtB:List Cell->Bool
 |[]=>true
 |x::r=>(match r with
  |[]=>true
  |y::_=>decide (x.1<=y.1))&&srtB r
theorem Zff:∀{l:List Cell},srtB l=true↔Srt l
 |[]=>by simp[srtB,Srt]
 |[x]=>by simp[srtB,Srt]
 |x::y::r=>by
  have ih:=Zff (l:=y::r);rw[srtB];simp only[Yb,Yk,ih];constructor
  ·rintro⟨h1,h2⟩;refine Yv.2 ⟨λz hz=> ?_,h2⟩;rcases Yx.1 hz with rfl|hz
   ·exact h1
   ·have:=(Yv.1 h2).1 z hz;omega
  ·intro h;have:=Yv.1 h;exact⟨this.1 y (by simp),this.2⟩
def Ziw (k:Int) (l:List Cell) (a m b:Int):Bool:=ZiB l a m b&&decide (b-a<=k)&&srtB ((l.drop a.toNat).take (m.toNat-a.toNat))&&srtB ((l.drop m.toNat).take (b.toNat-m.toNat))
def ZYJ (k:Int):En:=stE Zci ZsU 160 ZAT (λa=>some (Ziw k a.1 a.2.1 a.2.2.1 a.2.2.2)) (λa=>Zdt a.1 a.2.1.toNat a.2.2.2.toNat)
end
end Go.Proofs.YtpnjbfjomebppaaGreat
open Go.Proofs.Tryz (prog)
namespace Go.Proofs.YtpnjbfjomebppaaGreat
noncomputable section
def ZYx:LS:={n:=220,Sl:=[(0,.tip 0),(1,.code (So Kc)),(4,.fix (A.clo 160 [])),(10,.code (So Kc)),(11,.code (So Kc))],Bx:=[],Sg:=[⟨R.Pq Kb Ka,75,false⟩],keep:=[0]}
def ZjT (a:QT10):RT (Option (Go1 (QT10))):=
 let x1:=i64.wrap (shrI IntKind.u64 (IntKind.u64.wrap (i64.wrap (a.2.1+a.2.2.1))) 1)
 let x2:=Ze x1 (Le a.2.2.2.1)
 let x3:= !x2||Ze a.1 (Le a.2.2.2.1)
 let x4:=decide (Zqq (R.get (R.Pq Kb Ka) a.2.2.2.1 x1) (R.get (R.Pq Kb Ka) a.2.2.2.1 a.1)<0)
 .br (decide (a.2.1<a.2.2.1)) (.br (!x3||x2) (.br (x3) (Ls (Go1.cont (a.1,bif x4 then i64.wrap (x1+1) else a.2.1,bif x4 then a.2.2.1 else x1,a.2.2.2.1,PUnit.unit))) Ln) Ln) (Ls (Go1.brk (a.1,a.2.1,a.2.2.1,a.2.2.2.1,PUnit.unit)))
def ZNu:Ora:=ZaB false ZYx ZjT (λa=>(a.2.2.1-a.2.1).toNat+1)
theorem ZNt:Zal (envX prog [(364,ZmD),(160,ZbA)] [] 33554431 8) (.block 0 (.loop (ZQ Tryz.f305.body 0))) ZNu:=
 loopP ⟨ZgV,Zav,Tv⟩
def ZYw:LS:={n:=220,Sl:=[(0,.tip 0),(10,.code (So Kc)),(13,.code (So Kc))],Bx:=[],Sg:=[⟨R.Pq Kb Ka,75,false⟩],keep:=[0]}
def ZjS (a:QT13):RT (Option (Go1 (QT13))):=
 let x1:= !Ze (i64.wrap (a.2.1+1)) (Le a.2.2.1)
 let x2:=setI a.2.2.1 a.2.1 (R.get (R.Pq Kb Ka) a.2.2.1 (i64.wrap (a.2.1+1)))
 let x3:=x1||(!Ze a.2.1 (Le a.2.2.1)||(!Ze a.2.1 (Le a.2.2.1)||Ze (i64.wrap (a.2.1+1)) (Le x2)))
 let x4:= !x3
 let x5:=x1||(!Ze a.2.1 (Le a.2.2.1)||Ze a.2.1 (Le a.2.2.1))
 let x6:= !x5
 let x7:=x1||Ze a.2.1 (Le a.2.2.1)
 .br (decide (a.2.1<i64.wrap (a.1-1))) (.br (x4||(x6||(!x7||Ze (i64.wrap (a.2.1+1)) (Le a.2.2.1)))) (.br (x4||(x6||x7)) (.br (x4||x5) (.br (x3) (Ls (Go1.cont (a.1,i64.wrap (a.2.1+1),setI x2 (i64.wrap (a.2.1+1)) (R.get (R.Pq Kb Ka) a.2.2.1 a.2.1),PUnit.unit))) Ln) Ln) Ln) Ln) (Ls (Go1.brk (a.1,a.2.1,a.2.2.1,PUnit.unit)))
def ZNs:Ora:=ZaB false ZYw ZjS (λa=>(a.1-a.2.1).toNat+1)
theorem ZNr:Zal (envX prog [(364,ZmD),(160,ZbA)] [] 33554431 8) (.block 2 (.loop (ZQ Tryz.f305.body 2))) ZNs:=
 loopP ⟨ZgV,Zav,Tv⟩
def ZYv:LS:={n:=220,Sl:=[(0,.tip 0),(2,.code (So Kc)),(4,.fix (A.clo 160 [])),(14,.code (So Kc)),(15,.code (So Kc))],Bx:=[],Sg:=[⟨R.Pq Kb Ka,75,false⟩],keep:=[0]}
def ZjR (a:QT10):RT (Option (Go1 (QT10))):=
 let x1:=i64.wrap (shrI IntKind.u64 (IntKind.u64.wrap (i64.wrap (a.2.1+a.2.2.1))) 1)
 let x2:= !Ze a.1 (Le a.2.2.2.1)||Ze x1 (Le a.2.2.2.1)
 let x3:= !decide (Zqq (R.get (R.Pq Kb Ka) a.2.2.2.1 a.1) (R.get (R.Pq Kb Ka) a.2.2.2.1 x1)<0)
 .br (decide (a.2.1<a.2.2.1)) (.br (!x2||Ze a.1 (Le a.2.2.2.1)) (.br (x2) (Ls (Go1.cont (a.1,bif x3 then i64.wrap (x1+1) else a.2.1,bif x3 then a.2.2.1 else x1,a.2.2.2.1,PUnit.unit))) Ln) Ln) (Ls (Go1.brk (a.1,a.2.1,a.2.2.1,a.2.2.2.1,PUnit.unit)))
def ZNq:Ora:=ZaB false ZYv ZjR (λa=>(a.2.2.1-a.2.1).toNat+1)
theorem ZNp:Zal (envX prog [(364,ZmD),(160,ZbA)] [] 33554431 8) (.block 4 (.loop (ZQ Tryz.f305.body 4))) ZNq:=
 loopP ⟨ZgV,Zav,Tv⟩
def ZYu:LS:={n:=220,Sl:=[(0,.tip 0),(14,.code (So Kc)),(17,.code (So Kc))],Bx:=[],Sg:=[⟨R.Pq Kb Ka,75,false⟩],keep:=[0]}
def ZjQ (a:QT13):RT (Option (Go1 (QT13))):=
 let x1:= !Ze (i64.wrap (a.2.1-1)) (Le a.2.2.1)
 let x2:=setI a.2.2.1 a.2.1 (R.get (R.Pq Kb Ka) a.2.2.1 (i64.wrap (a.2.1-1)))
 let x3:=x1||(!Ze a.2.1 (Le a.2.2.1)||(!Ze a.2.1 (Le a.2.2.1)||Ze (i64.wrap (a.2.1-1)) (Le x2)))
 let x4:= !x3
 let x5:=x1||(!Ze a.2.1 (Le a.2.2.1)||Ze a.2.1 (Le a.2.2.1))
 let x6:= !x5
 let x7:=x1||Ze a.2.1 (Le a.2.2.1)
 .br (decide (a.2.1>a.1)) (.br (x4||(x6||(!x7||Ze (i64.wrap (a.2.1-1)) (Le a.2.2.1)))) (.br (x4||(x6||x7)) (.br (x4||x5) (.br (x3) (Ls (Go1.cont (a.1,i64.wrap (a.2.1-1),setI x2 (i64.wrap (a.2.1-1)) (R.get (R.Pq Kb Ka) a.2.2.1 a.2.1),PUnit.unit))) Ln) Ln) Ln) Ln) (Ls (Go1.brk (a.1,a.2.1,a.2.2.1,PUnit.unit)))
def ZNo:Ora:=ZaB false ZYu ZjQ (λa=>(a.2.1-a.1).toNat+1)
theorem ZNn:Zal (envX prog [(364,ZmD),(160,ZbA)] [] 33554431 8) (.block 6 (.loop (ZQ Tryz.f305.body 6))) ZNo:=
 loopP ⟨ZgV,Zav,Tv⟩
def ZYt:LS:={n:=220,Sl:=[(0,.tip 0),(1,.code (So Kc)),(2,.code (So Kc)),(3,.code (So Kc)),(4,.fix (A.clo 160 [])),(18,.code (So Kc)),(19,.code (So Kc)),(20,.code (So Kc)),(21,.code (So Kc)),(22,.code (So Kc))],Bx:=[],Sg:=[⟨R.Pq Kb Ka,75,false⟩],keep:=[0]}
def ZjP (a:QT14):RT (Option (Go1 (QT14))):=
 let x1:=i64.wrap (shrI IntKind.u64 (IntKind.u64.wrap (i64.wrap (a.2.2.2.2.2.1+a.2.2.2.2.2.2.1))) 1)
 let x2:=i64.wrap (a.2.2.2.2.2.2.2.1-x1)
 let x3:=Ze x2 (Le a.2.2.2.2.2.2.2.2.1)
 let x4:= !x3||Ze x1 (Le a.2.2.2.2.2.2.2.2.1)
 let x5:= !decide (Zqq (R.get (R.Pq Kb Ka) a.2.2.2.2.2.2.2.2.1 x2) (R.get (R.Pq Kb Ka) a.2.2.2.2.2.2.2.2.1 x1)<0)
 let x6:Int×List (Int×Int)×PUnit:=(a.2.2.2.2.2.2.2.1,a.2.2.2.2.2.2.2.2.1,PUnit.unit)
 .br (decide (a.2.2.2.2.2.1<a.2.2.2.2.2.2.1)) (.br (!x4||x3) (.br (x4) (Ls (Go1.cont (a.1,a.2.1,a.2.2.1,a.2.2.2.1,a.2.2.2.2.1,bif x5 then i64.wrap (x1+1) else a.2.2.2.2.2.1,bif x5 then a.2.2.2.2.2.2.1 else x1,x6))) Ln) Ln) (Ls (Go1.brk (a.1,a.2.1,a.2.2.1,a.2.2.2.1,a.2.2.2.2.1,a.2.2.2.2.2.1,a.2.2.2.2.2.2.1,x6)))
def ZNm:Ora:=ZaB false ZYt ZjP (λa=>(a.2.2.2.2.2.2.1-a.2.2.2.2.2.1).toNat+1)
theorem ZNl:Zal (envX prog [(364,ZmD),(160,ZbA)] [] 33554431 8) (.block 8 (.loop (ZQ Tryz.f305.body 8))) ZNm:=
 loopP ⟨ZgV,Zav,Tv⟩
def ZsS (k:Int) (s:List (Int×Int)) (a:Int) (m:Int) (b:Int):RT (Option (List (Int×Int))):=
 let x1:=runF false ZjT (λa_1=>Int.toNat (a_1.2.2.1-a_1.2.1)+1) (a,m,b,Stg.l (Zde Zci ZsU s),())
 let x2:QT10:=(getO (false,a,m,b,Stg.l (Zde Zci ZsU s),()) x1).2
 let x3:=x2.2
 let x4:QT13:=(x3.1,x2.1,x3.2.2.1,())
 let x5:=runF false ZjS (λa_1=>Int.toNat (a_1.1-a_1.2.1)+1) x4
 let x6:=runF false ZjR (λa_1=>Int.toNat (a_1.2.2.1-a_1.2.1)+1) (m,a,m,Stg.l (Zde Zci ZsU s),())
 let x7:QT10:=(getO (false,m,a,m,Stg.l (Zde Zci ZsU s),()) x6).2
 let x8:=x7.2
 let x9:QT13:=(x8.1,x7.1,x8.2.2.1,())
 let x10:=runF false ZjQ (λa_1=>Int.toNat (a_1.2.1-a_1.1)+1) x9
 let x11:=i64.wrap (i64.wrap (shrI IntKind.u64 (IntKind.u64.wrap (i64.wrap (a+b))) 1)+m)
 let x12:=decide (m>i64.wrap (shrI IntKind.u64 (IntKind.u64.wrap (i64.wrap (a+b))) 1))
 let x13:QT14:=(a,m,b,i64.wrap (shrI IntKind.u64 (IntKind.u64.wrap (i64.wrap (a+b))) 1),x11,bif x12 then i64.wrap (x11-b) else a,bif x12 then i64.wrap (shrI IntKind.u64 (IntKind.u64.wrap (i64.wrap (a+b))) 1) else m,i64.wrap (x11-1),Stg.l (Zde Zci ZsU s),())
 let x14:=runF false ZjP (λa_1=>Int.toNat (a_1.2.2.2.2.2.2.1-a_1.2.2.2.2.2.1)+1) x13
 let x15:QT14:=(getO (false,x13) x14).2
 let x16:=x15.2
 let x17:=x16.2
 let x18:=x17.2
 let x19:=x18.2
 let x20:=x19.2
 let x21:=x20.1
 let x22:=x16.1
 let x23:=i64.wrap (x19.1-x21)
 let x24:=decide (x21<x22)&&decide (x22<x23)
 let x25:=x20.2.2.2.1
 let x26:=x15.1
 let x27:=x18.1
 let x28:=decide (x26<x21)&&decide (x21<x27)
 let x29:List (Int×Int):=bif x24 then rotX x25 (Int.toNat x21) (Int.toNat x22) (Int.toNat x23) else x25
 let x30:=x17.1
 let x31:=decide (x27<x23)&&decide (x23<x30)
 let x32:Nat:=Int.toNat x27
 let x33:List (Int×Int):=bif x28 then Zdt x29 (Int.toNat x26) x32 else x29
 .br (!i64.wrap (m-a)==1||okB x1) (.br (!i64.wrap (m-a)==1||okB x5) (.br (i64.wrap (m-a)==1) (Ls (getO (false,x4) x5).2.2.2.1) (.br (!i64.wrap (b-m)==1||okB x6) (.br (!i64.wrap (b-m)==1||okB x10) (.br (i64.wrap (b-m)==1) (Ls (getO (false,x9) x10).2.2.2.1) (.br (okB x14) (.br (!x24||ZiB x25 x21 x22 x23) (.br (!x28||Ziw k x29 x26 x21 x27) (.br (!x31||Ziw k x33 x27 x23 x30) (Ls (bif x31 then Zdt x33 x32 (Int.toNat x30) else x33)) Ln) Ln) Ln) Ln)) Ln) Ln)) Ln) Ln
theorem ZTI (k:Int) (h:Za prog 305 (ZYJ k)) {pre:List Zci.den×HL ZAT->Option Bool} {F:List Zci.den×HL ZAT->List Zci.den} (hF:∀a,(R.sl Zci).ok a.1->okHL ZAT a.2->pre a≠some false->(ZsS k a.1 a.2.1 a.2.2.1 a.2.2.2).val=some (F a)):Za prog 305 (stE Zci ZsU 160 ZAT pre F):=
 Z1j (P:=prog) (n:=33554431) (k:=8) (l:=[(364,ZmD),(160,ZbA),(305,ZYJ k)]) (ol:=[(0,ZNu),(2,ZNs),(4,ZNq),(6,ZNo),(8,ZNm)]) ⟨ZgV,Zav,h,Tv⟩ Tryz.func305 rfl (by kernel_rfl) Tryz.call305 ⟨ZNt,ZNr,ZNp,ZNn,ZNl,Tv⟩ (r:=Zci) (T:=ZsU) (g0:=160) (ts:=ZAT) (t:=λa=>ZsS k a.1 a.2.1 a.2.2.1 a.2.2.2) (λa=>by kernel_rfl) hF
theorem ZpN (i j:Nat) (h:i+j<=4611686018427387904):IntKind.wrap .i64 (shrI .u64 (IntKind.wrap .u64 (IntKind.wrap .i64 ((i:Int)+(j:Int)))) 1)=(((i+j)/2:Nat):Int):=by
 rw[wrap_i64 ((i:Int)+(j:Int)) (by omega) (by omega)];have e:IntKind.wrap .u64 ((i:Int)+(j:Int))=((i+j:Nat):Int):=by rw[Zmg ⟨by simp[IntKind.min,IntKind.signed];omega,by simp[IntKind.max,IntKind.signed,IntKind.bits];omega⟩];simp
 rw[e];have:shrI .u64 ((i+j:Nat):Int) 1=(((i+j)/2:Nat):Int):=by simp only[shrI,IntKind.bits];rw[show (2:Int)^(min (1:Int).toNat 64)=2 from rfl,Int.fdiv_eq_ediv_of_nonneg _ (by decide)];simp
 rw[this,wrap_i64 _ (by omega) (by omega)]
theorem ZS5 {D:Type} {T:D->RT (Option (Go1 D))} {fuel:D->Nat} (mk:Nat->Nat->D) (q:Nat->Bool) (lo hi:Nat) (hlo:lo<=hi) (hf:hi-lo<fuel (mk lo hi))
  (hstep:∀i j,lo<=i->i<j->j<=hi->(T (mk i j)).val=some (.cont (bif q ((i+j)/2) then mk ((i+j)/2+1) j else mk i ((i+j)/2))))
  (hend:∀i,lo<=i->i<=hi->(T (mk i i)).val=some (.brk (mk i i))):
  ∃i,lo<=i/\i<=hi/\runF false T fuel (mk lo hi)=some (false,mk i i)/\(i=lo\/q (i-1)=true)/\(i=hi\/q i=false):=by
 have key:∀(n i j:Nat),lo<=i->i<=j->j<=hi->j-i<n->(i=lo\/q (i-1)=true)->(j=hi\/q j=false)->
   ∃r,runL (λa=>(T a).val) n (mk i j)=some (false,mk r r)/\lo<=r/\r<=hi/\(r=lo\/q (r-1)=true)/\(r=hi\/q r=false):=by
  intro n
  induction n with
  |zero=>intro i j _ _ _ h;omega
  |succ n ih=>
   intro i j h1 h2 h3 h4 h5 h6;by_cases he:i=j
   ·subst he;exact⟨i,by simp only[runL,hend i h1 h3],h1,h3,h5,h6⟩
   ·have hs:=hstep i j h1 (by omega) h3;cases hq:q ((i+j)/2) with
    |true=>
     rw[hq] at hs;obtain⟨r,hr,hr2⟩:=ih ((i+j)/2+1) j (by omega) (by omega) h3 (by omega) (.inr (by simpa using hq)) h6;exact⟨r,by simp only[runL,hs,Ya];exact hr,hr2⟩
    |false=>
     rw[hq] at hs;obtain⟨r,hr,hr2⟩:=ih i ((i+j)/2) h1 (by omega) (by omega) (by omega) h5 (.inr hq);exact⟨r,by simp only[runL,hs,Yc];exact hr,hr2⟩
 obtain⟨r,hr,h1,h2,h3,h4⟩:=key (fuel (mk lo hi)) lo hi (Ye _) hlo (Ye _) hf (.inl rfl) (.inl rfl);exact⟨r,h1,h2,by unfold runF;rw[hr];rfl,h3,h4⟩
def el (l:List Cell) (i:Nat):Cell:=l.getD i (0,0)
theorem Zb4 (l:List Cell) (i:Nat):R.get CR l (i:Int)=el l i:=by simp[R.get,el,R.Df]
theorem ZIp (X V Y:List Cell) (i:Nat) (h:i<V.length):el (X++V++Y) (X.length+i)=el V i:=by simp only[el,Yq];rw[Yo,YQ (by omega),Nat.add_sub_cancel_left,Yl h]
theorem Zcu (V:List Cell) (i:Nat) (h:i<V.length):V[i]? =some (el V i):=by simp[el,Yq,Yi h]
variable {V:List Cell}
theorem ZkU (h:Srt V) {i j:Nat} (hij:i<=j) (hj:j<V.length):(el V i).1<=(el V j).1:=by
 by_cases e:i=j
 ·subst e;exact Int.le_refl _
 ·have h1:=Zcu V i (by omega);have h2:=Zcu V j hj;have:=Yay.1 h i j (by omega) hj (by omega);rw[Yi (by omega)] at h1 h2;simp only[oinj] at h1 h2;rw[<-h1,<-h2];exact this
variable {p:Nat} {y:Cell}
theorem ZlW (h:y∈V.take p):∃i,i<p/\i<V.length/\y=el V i:=by obtain⟨i,hi,rfl⟩:=List.mem_iff_getElem.1 h;simp only[YA] at hi;refine⟨i,by omega,by omega,?_⟩;have:=Zcu V i (by omega);rw[Yi (by omega)] at this;simp only[oinj] at this;rw[<-this];simp
theorem Zjh (h:y∈V.drop p):∃i,p<=i/\i<V.length/\y=el V i:=by obtain⟨i,hi,rfl⟩:=List.mem_iff_getElem.1 h;simp only[YN] at hi;refine⟨p+i,by omega,by omega,?_⟩;have:=Zcu V (p+i) (by omega);rw[Yi (by omega)] at this;simp only[oinj] at this;rw[<-this];simp
theorem Z1l (X P Rr:List Cell) (x:Cell) (hm:(X++x::(P++Rr)).length<=most):
  ∃r,runF false ZjS (λa=>Int.toNat (a.1-a.2.1)+1) (((X.length+P.length+1:Nat):Int),(X.length:Int),X++x::(P++Rr),())=some r/\r.2.2.2.1=X++P++x::Rr:=by
 have hms:=mst;simp only[Yd,List.length_cons] at hm;refine ZC (fl:=false) (t:=ZjS) (fuel:=λa=>Int.toNat (a.1-a.2.1)+1)
  (I:=λa=>∃P1 P2:List Cell,P=P1++P2/\a=(((X.length+P.length+1:Nat):Int),((X.length+P1.length:Nat):Int),X++P1++x::(P2++Rr),()))
  (m:=λa=>Int.toNat (a.1-a.2.1)) (R:=λr=>r.2.2.2.1=X++P++x::Rr)
  (λa hi=> ?_) _ ⟨[],P,rfl,by simp⟩ (Yaw _)
 obtain⟨P1,P2,rfl,rfl⟩:=hi;simp only[Yd] at hm|-;have w0:IntKind.wrap .i64 (((X.length+(P1.length+P2.length)+1:Nat):Int)-1)=((X.length+P1.length+P2.length:Nat):Int):=by rw[wrap_i64 _ (by omega) (by omega)];omega
 cases P2 with
 |nil=>
  right;left;refine⟨(((X.length+(P1.length+([]:List Cell).length)+1:Nat):Int),((X.length+P1.length:Nat):Int),X++P1++x::([]++Rr),()),?_,by simp⟩;have d:decide (((X.length+P1.length:Nat):Int)<((X.length+P1.length+([]:List Cell).length:Nat):Int))=false:=by simp
  simp only[ZjS,RT.val,w0,d,Yc]
 |cons y P2=>
  left;have d:decide (((X.length+P1.length:Nat):Int)<((X.length+P1.length+(y::P2).length:Nat):Int))=true:=by simp;omega
  have w1:IntKind.wrap .i64 (((X.length+P1.length:Nat):Int)+1)=((X++P1).length:Int)+1+(([]:List Cell).length:Int):=by rw[wrap_i64 _ (by simp only[List.length_cons] at hm;omega) (by simp only[List.length_cons] at hm;omega)];simp
  have w2:((X.length+P1.length:Nat):Int)=((X++P1).length:Int):=by simp
  have e0:X++P1++x::(y::P2++Rr)=(X++P1)++x::([]++y::(P2++Rr)):=by simp
  have g1:R.get CR ((X++P1)++x::([]++y::(P2++Rr))) ((X++P1).length:Int)=x:=ZpP (r:=CR) _ _ _ _ rfl;have g2:=ZlY (X++P1) x y [] (P2++Rr) _ rfl;have r1:=Zte (X++P1) x ([]++y::(P2++Rr)) _ rfl;have r2:=Zlw (X++P1) x y [] (P2++Rr) _ rfl;have s1:=ZF2 (X++P1) x y [] (P2++Rr) _ _ rfl rfl;refine⟨(((X.length+(P1.length+(y::P2).length)+1:Nat):Int),((X++P1).length:Int)+1+(([]:List Cell).length:Int),(X++P1)++y::([]++x::(P2++Rr)),()),?_,⟨P1++[y],P2,by simp,by simp;omega⟩,by simp;omega⟩;rw[e0];rw[w2] at w1 d|-;simp only[ZjS,RT.val,w0,d,w1,g1,g2,r1,r2,s1,ZpD,Ya,Yg,Yf,Yj,YF]
theorem Z1m (X Q Rr:List Cell) (y:Cell) (hm:(X++(Q++y::Rr)).length<=most):
  ∃r,runF false ZjQ (λa=>Int.toNat (a.2.1-a.1)+1) ((X.length:Int),((X.length+Q.length:Nat):Int),X++(Q++y::Rr),())=some r/\r.2.2.2.1=X++y::(Q++Rr):=by
 have hms:=mst;simp only[Yd,List.length_cons] at hm;refine ZC (fl:=false) (t:=ZjQ) (fuel:=λa=>Int.toNat (a.2.1-a.1)+1)
  (I:=λa=>∃Q1 Q2:List Cell,Q=Q1++Q2/\a=((X.length:Int),((X.length+Q1.length:Nat):Int),X++Q1++y::(Q2++Rr),()))
  (m:=λa=>Int.toNat (a.2.1-a.1)) (R:=λr=>r.2.2.2.1=X++y::(Q++Rr))
  (λa hi=> ?_) _ ⟨Q,[],by simp,by simp⟩ (Yaw _)
 obtain⟨Q1,Q2,rfl,rfl⟩:=hi;simp only[Yd] at hm;rcases Yar Q1 with rfl|⟨Q',z,hc⟩
 ·right;left;refine⟨((X.length:Int),((X.length+([]:List Cell).length:Nat):Int),X++[]++y::(Q2++Rr),()),?_,by simp⟩;have d:decide (((X.length+([]:List Cell).length:Nat):Int)>(X.length:Int))=false:=by simp
  simp only[ZjQ,RT.val,d,Yc]
 ·rw[Yas] at hc;subst hc;left;have hl1:(Q'++[z]).length=Q'.length+1:=by simp
  have d:decide (((X.length+(Q'++[z]).length:Nat):Int)>(X.length:Int))=true:=by simp;omega
  have w1:IntKind.wrap .i64 (((X.length+(Q'++[z]).length:Nat):Int)-1)=((X++Q').length:Int):=by rw[wrap_i64 _ (by omega) (by omega)];simp;omega
  have w2:((X.length+(Q'++[z]).length:Nat):Int)=((X++Q').length:Int)+1+(([]:List Cell).length:Int):=by simp;omega
  have e0:X++(Q'++[z])++y::(Q2++Rr)=(X++Q')++z::([]++y::(Q2++Rr)):=by simp
  have g1:R.get CR ((X++Q')++z::([]++y::(Q2++Rr))) ((X++Q').length:Int)=z:=ZpP (r:=CR) _ _ _ _ rfl;have g2:=ZlY (X++Q') z y [] (Q2++Rr) _ rfl;have r1:=Zte (X++Q') z ([]++y::(Q2++Rr)) _ rfl;have r2:=Zlw (X++Q') z y [] (Q2++Rr) _ rfl;have s1:=ZxM (X++Q') z y [] (Q2++Rr) _ _ rfl rfl;refine⟨((X.length:Int),((X++Q').length:Int),(X++Q')++y::([]++z::(Q2++Rr)),()),?_,⟨Q',z::Q2,by simp,by simp⟩,by simp;omega⟩;rw[e0];rw[w2] at w1 d|-;simp only[ZjQ,RT.val,d,w1,g1,g2,r1,r2,s1,ZpD,Ya,Yg,Yf,Yj,YF]
variable {P Q:List Cell}
theorem ZA5 {x:Cell} (hs:Srt (P++Q)) (hP:∀y∈P,y.1<x.1) (hQ:∀y∈Q,x.1<=y.1):isort (x::(P++Q))=P++x::Q:=by
 have h:=Yaa.1 hs;refine Zhi (Yaa.2 ⟨h.1,Yv.2 ⟨hQ,h.2.1⟩,λa ha b hb=> ?_⟩) ?_
 ·have:=hP a ha;rcases Yx.1 hb with rfl|hb
  ·omega
  ·have:=hQ b hb;omega
 ·have:=Sm.swap (u:=P) (v:=[x]) (λa ha b hb=>by simp at hb;subst hb;have:=hP a ha;omega) [] Q;simpa using this
theorem ZxQ (hs:Srt (P++Q)) (hP:∀a∈P,a.1<=y.1) (hQ:∀a∈Q,y.1<a.1):isort (P++Q++[y])=P++y::Q:=by
 have h:=Yaa.1 hs;refine Zhi (Yaa.2 ⟨h.1,Yv.2 ⟨λb hb=>by have:=hQ b hb;omega,h.2.1⟩,λa ha b hb=> ?_⟩) ?_
 ·have:=hP a ha;rcases Yx.1 hb with rfl|hb
  ·omega
  ·have:=hQ b hb;omega
 ·have:=(Sm.swap (u:=Q) (v:=[y]) (λa ha b hb=>by simp at hb;subst hb;have:=hQ a ha;omega) P []).symm;simpa using this
theorem Zaz {α:Type} (l:List α) (i:Nat) (h:i<l.length):Ze (i:Int) l.length=true:=ZF.2 (by omega)
theorem ZhH (i:Nat) (h:i<=4611686018427387904):IntKind.wrap .i64 ((i:Int)+1)=((i+1:Nat):Int):=by rw[wrap_i64 _ (by omega) (by omega)];simp
theorem wsub (i j:Nat) (h:i<=4611686018427387904) (hj:j<=i):IntKind.wrap .i64 ((i:Int)-(j:Int))=((i-j:Nat):Int):=by rw[wrap_i64 _ (by omega) (by omega)];omega
theorem wadd (i j:Nat) (h:i+j<=4611686018427387904):IntKind.wrap .i64 ((i:Int)+(j:Int))=((i+j:Nat):Int):=by rw[wrap_i64 _ (by omega) (by omega)];simp
theorem ZYG (k:Int) (X V Y:List Cell) (x:Cell) (hV:0<V.length) (sV:Srt V) (hm:(X++[x]++V++Y).length<=most):
  (ZsS k (X++[x]++V++Y) X.length (X.length+1:Nat) (X.length+1+V.length:Nat)).val=some (X++isort ([x]++V)++Y):=by
 have hms:=mst;have hlen:(X++[x]++V++Y).length=X.length+1+V.length+Y.length:=by simp;omega
 have hm':=hm;rw[hlen] at hm';have ga:el (X++[x]++V++Y) X.length=x:=by simp[el]
 have gv:∀i,i<V.length->el (X++[x]++V++Y) (X.length+1+i)=el V i:=λi hi=>by have:=ZIp (X++[x]) V Y i hi;simpa using this
 obtain⟨i,i1,i2,hrun,q1,q2⟩:=ZS5 (T:=ZjT) (fuel:=λa_1=>Int.toNat (a_1.2.2.1-a_1.2.1)+1) (λi j=>((X.length:Int),(i:Int),(j:Int),X++[x]++V++Y,()))
  (λh=>decide ((el (X++[x]++V++Y) h).1<x.1)) (X.length+1) (X.length+1+V.length) (by omega) (by simp only;omega)
  (λi j h1 h2 h3=>by
   have d:decide ((i:Int)<(j:Int))=true:=by simpa using h2
   have r1:=Zaz (X++[x]++V++Y) ((i+j)/2) (by rw[hlen];omega);have r2:=Zaz (X++[x]++V++Y) X.length (by rw[hlen];omega);simp only[ZjT,RT.val,d,ZpN i j (by omega),r1,r2,Yg,Yj,Ya,Zb4,Zlu,ga,ZhH ((i+j)/2) (by omega)]
   cases decide ((el (X++[x]++V++Y) ((i+j)/2)).1<x.1)<;>rfl)
  (λi h1 h2=>by
   have d:decide ((i:Int)<(i:Int))=false:=by simp
   simp only[ZjT,RT.val,d,Yc])
 obtain⟨p,rfl⟩:∃p,i=X.length+1+p:=⟨i-(X.length+1),by omega⟩;have hp:p<=V.length:=by omega
 have hP:∀y∈V.take p,y.1<x.1:=λy hy=>by
  obtain⟨j,h1,h2,rfl⟩:=ZlW hy;rcases q1 with q1|q1
  ·omega
  ·rw[show X.length+1+p-1=X.length+1+(p-1) by omega,gv (p-1) (by omega)] at q1;have:=ZkU sV (i:=j) (j:=p-1) (by omega) (by omega);simp only[Yk] at q1;omega
 have hQ:∀y∈V.drop p,x.1<=y.1:=λy hy=>by
  obtain⟨j,h1,h2,rfl⟩:=Zjh hy;rcases q2 with q2|q2
  ·omega
  ·rw[gv p (by omega)] at q2;have:=ZkU sV (i:=p) (j:=j) h1 h2;simp only[Yab] at q2;omega
 have hV2:V.take p++V.drop p=V:=Yai p V;have hpl:(V.take p).length=p:=by simp;omega
 obtain⟨r,hr,hr2⟩:=Z1l X (V.take p) (V.drop p++Y) x (by
  have:X++x::(V.take p++(V.drop p++Y))=X++[x]++V++Y:=by rw[<-List.append_assoc (V.take p),hV2];simp
  rw[this];exact hm)
 rw[hpl,show X.length+p+1=X.length+1+p by omega,show X++x::(V.take p++(V.drop p++Y))=X++[x]++V++Y by rw[<-List.append_assoc (V.take p),hV2];simp] at hr;have w1:(IntKind.wrap .i64 (((X.length+1:Nat):Int)-(X.length:Int))==1)=true:=by rw[wsub _ _ (by omega) (by omega)];simp
 have hfin:X++V.take p++x::(V.drop p++Y)=X++isort ([x]++V)++Y:=by have:=ZA5 (x:=x) (P:=V.take p) (Q:=V.drop p) (by rw[hV2];exact sV) hP hQ;rw[hV2] at this;rw[show [x]++V=x::V from rfl,this];simp
 have hrun':runF false ZjT (λa_1=>Int.toNat (a_1.2.2.1-a_1.2.1)+1) ((X.length:Int),((X.length+1:Nat):Int),((X.length+1+V.length:Nat):Int),X++[x]++V++Y,())=some (false,((X.length:Int),((X.length+1+p:Nat):Int),((X.length+1+p:Nat):Int),X++[x]++V++Y,())):=hrun;simp only[ZsS,Zde,RT.val,w1,Yg,Yj,hrun',okB,getO,Ya,hr,hr2,hfin]
theorem ZTS (k:Int) (X U Y:List Cell) (y:Cell) (hU:1<U.length) (sU:Srt U) (hm:(X++U++[y]++Y).length<=most):
  (ZsS k (X++U++[y]++Y) X.length (X.length+U.length:Nat) (X.length+U.length+1:Nat)).val=some (X++isort (U++[y])++Y):=by
 have hms:=mst;have hlen:(X++U++[y]++Y).length=X.length+U.length+1+Y.length:=by simp;omega
 have hm':=hm;rw[hlen] at hm';have ga:el (X++U++[y]++Y) (X.length+U.length)=y:=by simp[el]
 have gv:∀i,i<U.length->el (X++U++[y]++Y) (X.length+i)=el U i:=λi hi=>by have:=ZIp X U ([y]++Y) i hi;simpa using this
 obtain⟨i,i1,i2,hrun,q1,q2⟩:=ZS5 (T:=ZjR) (fuel:=λa_1=>Int.toNat (a_1.2.2.1-a_1.2.1)+1) (λi j=>(((X.length+U.length:Nat):Int),(i:Int),(j:Int),X++U++[y]++Y,()))
  (λh=>decide ((el (X++U++[y]++Y) h).1<=y.1)) X.length (X.length+U.length) (by omega) (by simp only;omega)
  (λi j h1 h2 h3=>by
   have d:decide ((i:Int)<(j:Int))=true:=by simpa using h2
   have r1:=Zaz (X++U++[y]++Y) ((i+j)/2) (by rw[hlen];omega);have r2:=Zaz (X++U++[y]++Y) (X.length+U.length) (by rw[hlen];omega);simp only[ZjR,RT.val,d,ZpN i j (by omega),r1,r2,Yg,Yj,Yf,Ya,Zb4,ZxI,ga,ZhH ((i+j)/2) (by omega)]
   cases decide ((el (X++U++[y]++Y) ((i+j)/2)).1<=y.1)<;>rfl)
  (λi h1 h2=>by
   have d:decide ((i:Int)<(i:Int))=false:=by simp
   simp only[ZjR,RT.val,d,Yc])
 obtain⟨p,rfl⟩:∃p,i=X.length+p:=⟨i-X.length,by omega⟩;have hp:p<=U.length:=by omega
 have hP:∀a∈U.take p,a.1<=y.1:=λa ha=>by
  obtain⟨j,h1,h2,rfl⟩:=ZlW ha;rcases q1 with q1|q1
  ·omega
  ·rw[show X.length+p-1=X.length+(p-1) by omega,gv (p-1) (by omega)] at q1;have:=ZkU sU (i:=j) (j:=p-1) (by omega) (by omega);simp only[Yk] at q1;omega
 have hQ:∀a∈U.drop p,y.1<a.1:=λa ha=>by
  obtain⟨j,h1,h2,rfl⟩:=Zjh ha;rcases q2 with q2|q2
  ·omega
  ·rw[gv p (by omega)] at q2;have:=ZkU sU (i:=p) (j:=j) h1 h2;simp only[Yab] at q2;omega
 have hU2:U.take p++U.drop p=U:=Yai p U;have hql:(U.drop p).length=U.length-p:=by simp
 have hpl:(X++U.take p).length=X.length+p:=by simp;omega
 have e0:(X++U.take p)++(U.drop p++y::Y)=X++U++[y]++Y:=by
  have:(X++U.take p)++(U.drop p++y::Y)=X++((U.take p++U.drop p)++y::Y):=by simp only[Yo]
  rw[this,hU2];simp
 obtain⟨r,hr,hr2⟩:=Z1m (X++U.take p) (U.drop p) Y y (by rw[e0];exact hm);rw[e0,hpl,hql,show X.length+p+(U.length-p)=X.length+U.length by omega] at hr;have w0:(IntKind.wrap .i64 (((X.length+U.length:Nat):Int)-(X.length:Int))==1)=false:=by rw[wsub _ _ (by omega) (by omega)];simp;omega
 have w1:(IntKind.wrap .i64 (((X.length+U.length+1:Nat):Int)-((X.length+U.length:Nat):Int))==1)=true:=by rw[wsub _ _ (by omega) (by omega)];simp
 have hfin:X++U.take p++y::(U.drop p++Y)=X++isort (U++[y])++Y:=by have:=ZxQ (y:=y) (P:=U.take p) (Q:=U.drop p) (by rw[hU2];exact sU) hP hQ;rw[hU2] at this;rw[this];simp
 have hrun':runF false ZjR (λa_1=>Int.toNat (a_1.2.2.1-a_1.2.1)+1) (((X.length+U.length:Nat):Int),(X.length:Int),((X.length+U.length:Nat):Int),X++U++[y]++Y,())=some (false,(((X.length+U.length:Nat):Int),((X.length+p:Nat):Int),((X.length+p:Nat):Int),X++U++[y]++Y,())):=hrun;simp only[ZsS,Zde,RT.val,w0,w1,Yg,Ym,Yt,Yj,hrun',okB,getO,Ya,Yc,hr,hr2,hfin]
theorem Zec (l:List Cell):(isort l).length=l.length:=by
 have hi:∀(x:Cell) (l:List Cell),(ins x l).length=l.length+1:=λx l=>by
  induction l with
  |nil=>rfl
  |cons y l ih=>simp only[ins];split<;>simp[ih]
 have:∀(l acc:List Cell),(l.foldl (λa x=>ins x a) acc).length=acc.length+l.length:=by
  intro l
  induction l with
  |nil=>intro acc;simp
  |cons a l ih=>intro acc;rw[List.foldl_cons,ih,hi];simp;omega
 simp[isort,this]
theorem sub3 (X U V Y:List Cell):((X++U++V++Y).drop X.length).take ((X.length+U.length)-X.length)=U/\((X++U++V++Y).drop (X.length+U.length)).take ((X.length+U.length+V.length)-(X.length+U.length))=V:=by
 constructor
 ·have:X++U++V++Y=X++(U++(V++Y)):=by simp
  rw[this,Y9 rfl,Yal (by omega)]
 ·have:X++U++V++Y=(X++U)++(V++Y):=by simp
  rw[this,Y9 (by simp),Yal (by omega)]
theorem ZF6 (X U V Y:List Cell) (hU:0<U.length) (hV:0<V.length) (hm:(X++U++V++Y).length<=most):ZiB (X++U++V++Y) X.length (X.length+U.length:Nat) (X.length+U.length+V.length:Nat)=true:=by simp only[ZiB,Yb,Yk,YP];simp only[Yd] at hm|-;omega
theorem ZF1 (k:Int) (X U V Y:List Cell) (hU:0<U.length) (hV:0<V.length) (sU:Srt U) (sV:Srt V) (hk:((U.length+V.length:Nat):Int)<=k) (hm:(X++U++V++Y).length<=most):Ziw k (X++U++V++Y) X.length (X.length+U.length:Nat) (X.length+U.length+V.length:Nat)=true:=by obtain⟨s1,s2⟩:=sub3 X U V Y;simp only[Ziw,ZF6 X U V Y hU hV hm,Int.toNat_natCast,s1,s2,Zff.2 sU,Zff.2 sV,YW,YU,Yk];omega
theorem ZmM (X L Y:List Cell) (b:Nat) (hb:b=X.length+L.length):Zdt (X++L++Y) X.length b=X++isort L++Y:=by subst hb;exact Zs3 X L Y
theorem ZYI (k:Int) (X U V Y:List Cell) (hU:1<U.length) (hV:1<V.length) (sU:Srt U) (sV:Srt V) (hk:((U.length+V.length:Nat):Int)<=k+1) (hm:(X++U++V++Y).length<=most):
  (ZsS k (X++U++V++Y) X.length (X.length+U.length:Nat) (X.length+U.length+V.length:Nat)).val=some (X++isort (U++V)++Y):=by
 have hms:=mst;have hlen:(X++U++V++Y).length=X.length+U.length+V.length+Y.length:=by simp;omega
 have hm':=hm;rw[hlen] at hm';have gu:∀i,i<U.length->el (X++U++V++Y) (X.length+i)=el U i:=λi hi=>by have:=ZIp X U (V++Y) i hi;simpa using this
 have gv:∀i,i<V.length->el (X++U++V++Y) (X.length+U.length+i)=el V i:=λi hi=>by have:=ZIp (X++U) V Y i hi;simpa using this
 obtain⟨M,hM⟩:∃M,M=(X.length+(X.length+U.length+V.length))/2:=⟨_,rfl⟩;obtain⟨lo,hi,hlo,hlh,hb1,hb2,hb3,hb4,hb5⟩:∃lo hi:Nat,lo<=hi/\
   ((bif decide (((X.length+U.length:Nat):Int)>(M:Int)) then IntKind.wrap .i64 (((M+(X.length+U.length):Nat):Int)-((X.length+U.length+V.length:Nat):Int)) else (X.length:Int))=(lo:Int)/\(bif decide (((X.length+U.length:Nat):Int)>(M:Int)) then (M:Int) else ((X.length+U.length:Nat):Int))=(hi:Int))/\
   X.length<=lo/\hi<=X.length+U.length/\(∀c,lo<=c->c<hi->X.length+U.length<=M+(X.length+U.length)-1-c/\M+(X.length+U.length)-1-c<X.length+U.length+V.length)/\
   ((lo=X.length\/M+(X.length+U.length)-lo=X.length+U.length+V.length)/\(hi=X.length+U.length\/hi=M))/\M+(X.length+U.length)<=lo+(X.length+U.length+V.length):=by
  by_cases hc:M<X.length+U.length
  ·refine⟨M+(X.length+U.length)-(X.length+U.length+V.length),M,by omega,⟨?_,?_⟩,by omega,by omega,λc h1 h2=>by omega,⟨by omega,.inr rfl⟩,by omega⟩
   ·have:decide (((X.length+U.length:Nat):Int)>(M:Int))=true:=by simp;omega
    rw[this,Ya,wsub _ _ (by omega) (by omega)]
   ·have:decide (((X.length+U.length:Nat):Int)>(M:Int))=true:=by simp;omega
    rw[this,Ya]
  ·refine⟨X.length,X.length+U.length,by omega,⟨?_,?_⟩,by omega,by omega,λc h1 h2=>by omega,⟨.inl rfl,.inl rfl⟩,by omega⟩
   ·have:decide (((X.length+U.length:Nat):Int)>(M:Int))=false:=by simp;omega
    rw[this,Yc]
   ·have:decide (((X.length+U.length:Nat):Int)>(M:Int))=false:=by simp;omega
    rw[this,Yc]
 obtain⟨σ,i1,i2,hrun,q1,q2⟩:=ZS5 (T:=ZjP) (fuel:=λa_1=>Int.toNat (a_1.2.2.2.2.2.2.1-a_1.2.2.2.2.2.1)+1)
  (λi j=>((X.length:Int),((X.length+U.length:Nat):Int),((X.length+U.length+V.length:Nat):Int),(M:Int),((M+(X.length+U.length):Nat):Int),(i:Int),(j:Int),((M+(X.length+U.length)-1:Nat):Int),X++U++V++Y,()))
  (λh=>decide ((el (X++U++V++Y) h).1<=(el (X++U++V++Y) (M+(X.length+U.length)-1-h)).1)) lo hi hlo (by simp only;omega)
  (λi j h1 h2 h3=>by
   have d:decide ((i:Int)<(j:Int))=true:=by simpa using h2
   obtain⟨b1,b2⟩:=hb3 ((i+j)/2) (by omega) (by omega);have r1:=Zaz (X++U++V++Y) ((i+j)/2) (by rw[hlen];omega);have r2:=Zaz (X++U++V++Y) (M+(X.length+U.length)-1-(i+j)/2) (by rw[hlen];omega);simp only[ZjP,RT.val,d,ZpN i j (by omega),wsub (M+(X.length+U.length)-1) ((i+j)/2) (by omega) (by omega),r1,r2,Yg,Yj,Ya,Zb4,ZxI,ZhH ((i+j)/2) (by omega)]
   cases decide ((el (X++U++V++Y) ((i+j)/2)).1<=(el (X++U++V++Y) (M+(X.length+U.length)-1-(i+j)/2)).1)<;>rfl)
  (λi h1 h2=>by
   have d:decide ((i:Int)<(i:Int))=false:=by simp
   simp only[ZjP,RT.val,d,Yc])
 obtain⟨n1,hn1⟩:∃n1,σ=X.length+n1:=⟨σ-X.length,by omega⟩;subst hn1;have hn1:n1<=U.length:=by omega
 have hbound:∀c,lo<=c->c<hi->True:=λ_ _ _=>trivial
 have hσM:X.length+n1<=M:=by
  rcases hb4.2 with e|e
  ·by_cases hc:M<X.length+U.length
   ·have:=hb3 lo;rcases Y3 lo hi with h|h
    ·have:=hb3 (hi-1) (by omega) (by omega);omega
    ·omega
   ·omega
  ·omega
 obtain⟨u1,u2,hu,hu1⟩:=ZbN U n1 hn1;have hv1le:M-(X.length+n1)<=V.length:=by omega
 obtain⟨v1,v2,hv,hv1⟩:=ZbN V (M-(X.length+n1)) hv1le;subst hu hv;simp only[Yd] at*;have su:=Yaa.1 sU;have sv:=Yaa.1 sV;have eu:∀i,i<u1.length+u2.length->el (X++(u1++u2)++(v1++v2)++Y) (X.length+i)=el (u1++u2) i:=λi hi=>gu i (by omega)
 have ev:∀i,i<v1.length+v2.length->el (X++(u1++u2)++(v1++v2)++Y) (X.length+(u1.length+u2.length)+i)=el (v1++v2) i:=λi hi=>gv i (by omega)
 have mu1:∀x∈u1,∃i,i<u1.length/\x=el (u1++u2) i:=λx hx=>by obtain⟨i,h1,h2,e⟩:=ZlW (V:=u1++u2) (p:=u1.length) (y:=x) (by simpa using hx);exact⟨i,h1,e⟩
 have mu2:∀x∈u2,∃i,u1.length<=i/\i<u1.length+u2.length/\x=el (u1++u2) i:=λx hx=>by obtain⟨i,h1,h2,e⟩:=Zjh (V:=u1++u2) (p:=u1.length) (y:=x) (by simpa using hx);exact⟨i,h1,by simpa using h2,e⟩
 have mv1:∀x∈v1,∃i,i<v1.length/\x=el (v1++v2) i:=λx hx=>by obtain⟨i,h1,h2,e⟩:=ZlW (V:=v1++v2) (p:=v1.length) (y:=x) (by simpa using hx);exact⟨i,h1,e⟩
 have mv2:∀x∈v2,∃i,v1.length<=i/\i<v1.length+v2.length/\x=el (v1++v2) i:=λx hx=>by obtain⟨i,h1,h2,e⟩:=Zjh (V:=v1++v2) (p:=v1.length) (y:=x) (by simpa using hx);exact⟨i,h1,by simpa using h2,e⟩
 have h12:∀x∈u2,∀y∈v1,y.1<x.1:=λx hx y hy=>by
  obtain⟨i,a1,a2,rfl⟩:=mu2 x hx;obtain⟨j,b1,rfl⟩:=mv1 y hy;rcases q2 with e|e
  ·exfalso;rcases hb4.2 with f|f<;>omega
  ·have hidx:M+(X.length+(u1.length+u2.length))-1-(X.length+n1)=X.length+(u1.length+u2.length)+(v1.length-1):=by omega
   rw[eu n1 (by omega),hidx,ev (v1.length-1) (by omega)] at e;have c1:=ZkU sU (i:=n1) (j:=i) (by omega) (by simp;omega);have c2:=ZkU sV (i:=j) (j:=v1.length-1) (by omega) (by simp;omega);simp only[Yab] at e;omega
 have h1:∀x∈u1,∀y∈v2,x.1<=y.1:=λx hx y hy=>by
  obtain⟨i,a1,rfl⟩:=mu1 x hx;obtain⟨j,b1,b2,rfl⟩:=mv2 y hy;rcases q1 with e|e
  ·exfalso;rcases hb4.1 with f|f<;>omega
  ·have hidx:M+(X.length+(u1.length+u2.length))-1-(X.length+n1-1)=X.length+(u1.length+u2.length)+v1.length:=by omega
   rw[hidx,show X.length+n1-1=X.length+(n1-1) by omega,eu (n1-1) (by omega),ev v1.length (by omega)] at e;have c1:=ZkU sU (i:=i) (j:=n1-1) (by omega) (by simp;omega);have c2:=ZkU sV (i:=v1.length) (j:=j) (by omega) (by simp;omega);simp only[Yk] at e;omega
 have hlaw:=ZYH h12 h1 su.2.2 sv.2.2;have hMv:M=X.length+u1.length+v1.length:=by omega
 have w0:(IntKind.wrap .i64 (((X.length+(u1.length+u2.length):Nat):Int)-(X.length:Int))==1)=false:=by rw[wsub _ _ (by omega) (by omega)];simp;omega
 have w1:(IntKind.wrap .i64 (((X.length+(u1.length+u2.length)+(v1.length+v2.length):Nat):Int)-((X.length+(u1.length+u2.length):Nat):Int))==1)=false:=by rw[wsub _ _ (by omega) (by omega)];simp;omega
 have w2:IntKind.wrap .i64 (shrI .u64 (IntKind.wrap .u64 (IntKind.wrap .i64 ((X.length:Int)+((X.length+(u1.length+u2.length)+(v1.length+v2.length):Nat):Int)))) 1)=(M:Int):=by rw[ZpN _ _ (by omega),hM]
 have w3:IntKind.wrap .i64 ((M:Int)+((X.length+(u1.length+u2.length):Nat):Int))=((M+(X.length+(u1.length+u2.length)):Nat):Int):=wadd _ _ (by omega);have w4:IntKind.wrap .i64 (((M+(X.length+(u1.length+u2.length)):Nat):Int)-1)=((M+(X.length+(u1.length+u2.length))-1:Nat):Int):=by have:=wsub (M+(X.length+(u1.length+u2.length))) 1 (by omega) (by omega);simpa using this
 have w5:IntKind.wrap .i64 (((M+(X.length+(u1.length+u2.length)):Nat):Int)-((X.length+n1:Nat):Int))=((X.length+(u1.length+u2.length)+v1.length:Nat):Int):=by rw[wsub _ _ (by omega) (by omega)];omega
 have e0:X++(u1++u2)++(v1++v2)++Y=(X++u1)++u2++v1++(v2++Y):=by simp
 have hrot:(decide (((X.length+n1:Nat):Int)<((X.length+(u1.length+u2.length):Nat):Int))&&decide (((X.length+(u1.length+u2.length):Nat):Int)<((X.length+(u1.length+u2.length)+v1.length:Nat):Int)))=true->
   ZiB (X++(u1++u2)++(v1++v2)++Y) ((X.length+n1:Nat):Int) ((X.length+(u1.length+u2.length):Nat):Int) ((X.length+(u1.length+u2.length)+v1.length:Nat):Int)=true:=λh=>by simp only[Yb,Yk] at h;have:=ZF6 (X++u1) u2 v1 (v2++Y) (by omega) (by omega) (by rw[<-e0];simp only[Yd];omega);rw[e0];simp only[Yd] at this;rwa [show X.length+u1.length+u2.length=X.length+(u1.length+u2.length) by omega,show X.length+u1.length=X.length+n1 by omega] at this
 have hrotX:(bif (decide (((X.length+n1:Nat):Int)<((X.length+(u1.length+u2.length):Nat):Int))&&decide (((X.length+(u1.length+u2.length):Nat):Int)<((X.length+(u1.length+u2.length)+v1.length:Nat):Int))) then rotX (X++(u1++u2)++(v1++v2)++Y) (X.length+n1) (X.length+(u1.length+u2.length)) (X.length+(u1.length+u2.length)+v1.length) else X++(u1++u2)++(v1++v2)++Y)=X++u1++v1++(u2++v2++Y):=by
  by_cases h:0<u2.length/\0<v1.length
  ·have:(decide (((X.length+n1:Nat):Int)<((X.length+(u1.length+u2.length):Nat):Int))&&decide (((X.length+(u1.length+u2.length):Nat):Int)<((X.length+(u1.length+u2.length)+v1.length:Nat):Int)))=true:=by simp only[Yb,Yk];omega
   rw[this,Ya,e0];have:=ZOd (X++u1) u2 v1 (v2++Y);simp only[Yd] at this;rw[show X.length+u1.length+u2.length=X.length+(u1.length+u2.length) by omega,show X.length+u1.length=X.length+n1 by omega] at this;rw[this];simp
  ·have:(decide (((X.length+n1:Nat):Int)<((X.length+(u1.length+u2.length):Nat):Int))&&decide (((X.length+(u1.length+u2.length):Nat):Int)<((X.length+(u1.length+u2.length)+v1.length:Nat):Int)))=false:=by rw[YD];simp only[ne_eq,Yb,Yk];omega
   rw[this,Yc];rcases YaI u2.length with h2|h2
   ·rw[YX.1 h2];simp
   ·rw[YX.1 (show v1.length=0 by omega)];simp
 have hl2:(X++u1++v1++(u2++v2++Y)).length<=most:=by simp only[Yd];omega
 have hs1:(decide ((X.length:Int)<((X.length+n1:Nat):Int))&&decide (((X.length+n1:Nat):Int)<(M:Int)))=true->Ziw k (X++u1++v1++(u2++v2++Y)) (X.length:Int) ((X.length+n1:Nat):Int) (M:Int)=true:=λh=>by simp only[Yb,Yk] at h;have:=ZF1 k X u1 v1 (u2++v2++Y) (by omega) (by omega) su.1 sv.1 (by omega) hl2;rwa [<-hMv,show X.length+u1.length=X.length+n1 by omega] at this
 have hsX1:(bif (decide ((X.length:Int)<((X.length+n1:Nat):Int))&&decide (((X.length+n1:Nat):Int)<(M:Int))) then Zdt (X++u1++v1++(u2++v2++Y)) X.length M else X++u1++v1++(u2++v2++Y))=X++isort (u1++v1)++(u2++v2++Y):=by
  by_cases h:0<u1.length/\0<v1.length
  ·have:(decide ((X.length:Int)<((X.length+n1:Nat):Int))&&decide (((X.length+n1:Nat):Int)<(M:Int)))=true:=by simp only[Yb,Yk];omega
   rw[this,Ya,Yo X u1 v1];exact ZmM X (u1++v1) (u2++v2++Y) M (by simp;omega)
  ·have:(decide ((X.length:Int)<((X.length+n1:Nat):Int))&&decide (((X.length+n1:Nat):Int)<(M:Int)))=false:=by rw[YD];simp only[ne_eq,Yb,Yk];omega
   rw[this,Yc]
   have:isort (u1++v1)=u1++v1:=Zr4 (by
    rcases YaI u1.length with h2|h2
    ·rw[YX.1 h2,List.nil_append];exact sv.1
    ·rw[YX.1 (show v1.length=0 by omega),YR];exact su.1)
   rw[this];simp
 have e3:X++isort (u1++v1)++(u2++v2++Y)=(X++isort (u1++v1))++u2++v2++Y:=by simp
 have hl3:(X++isort (u1++v1)).length=M:=by rw[Yd,Zec];simp;omega
 have hs2:(decide ((M:Int)<((X.length+(u1.length+u2.length)+v1.length:Nat):Int))&&decide (((X.length+(u1.length+u2.length)+v1.length:Nat):Int)<((X.length+(u1.length+u2.length)+(v1.length+v2.length):Nat):Int)))=true->Ziw k (X++isort (u1++v1)++(u2++v2++Y)) (M:Int) ((X.length+(u1.length+u2.length)+v1.length:Nat):Int) ((X.length+(u1.length+u2.length)+(v1.length+v2.length):Nat):Int)=true:=λh=>by simp only[Yb,Yk] at h;have:=ZF1 k (X++isort (u1++v1)) u2 v2 Y (by omega) (by omega) su.2.1 sv.2.1 (by omega) (by rw[<-e3];simp only[Yd,Zec];omega);rw[e3];rw[hl3] at this;rwa [show M+u2.length=X.length+(u1.length+u2.length)+v1.length by omega,show X.length+(u1.length+u2.length)+v1.length+v2.length=X.length+(u1.length+u2.length)+(v1.length+v2.length) by omega] at this
 have hsX2:(bif (decide ((M:Int)<((X.length+(u1.length+u2.length)+v1.length:Nat):Int))&&decide (((X.length+(u1.length+u2.length)+v1.length:Nat):Int)<((X.length+(u1.length+u2.length)+(v1.length+v2.length):Nat):Int))) then Zdt (X++isort (u1++v1)++(u2++v2++Y)) M (X.length+(u1.length+u2.length)+(v1.length+v2.length)) else X++isort (u1++v1)++(u2++v2++Y))=X++isort (u1++u2++(v1++v2))++Y:=by
  have hfin:isort (u1++u2++(v1++v2))=isort (u1++v1)++isort (u2++v2):=by rw[<-hlaw];simp
  rw[hfin];by_cases h:0<u2.length/\0<v2.length
  ·have:(decide ((M:Int)<((X.length+(u1.length+u2.length)+v1.length:Nat):Int))&&decide (((X.length+(u1.length+u2.length)+v1.length:Nat):Int)<((X.length+(u1.length+u2.length)+(v1.length+v2.length):Nat):Int)))=true:=by simp only[Yb,Yk];omega
   rw[this,Ya,e3,Yo (X++isort (u1++v1)) u2 v2];have:=ZmM (X++isort (u1++v1)) (u2++v2) Y (X.length+(u1.length+u2.length)+(v1.length+v2.length)) (by rw[hl3];simp;omega);rw[hl3] at this;rw[this];simp
  ·have:(decide ((M:Int)<((X.length+(u1.length+u2.length)+v1.length:Nat):Int))&&decide (((X.length+(u1.length+u2.length)+v1.length:Nat):Int)<((X.length+(u1.length+u2.length)+(v1.length+v2.length):Nat):Int)))=false:=by rw[YD];simp only[ne_eq,Yb,Yk];omega
   rw[this,Yc]
   have:isort (u2++v2)=u2++v2:=Zr4 (by
    rcases YaI u2.length with h2|h2
    ·rw[YX.1 h2,List.nil_append];exact sv.2.1
    ·rw[YX.1 (show v2.length=0 by omega),YR];exact su.2.1)
   rw[this];simp
 have imp:∀{p q:Bool},(p=true->q=true)->(!p||q)=true:=fun {p q} h=>by
  cases p with
  |false=>rfl
  |true=>rw[h rfl];rfl
 have hst:runF false ZjP (λa_1=>Int.toNat (a_1.2.2.2.2.2.2.1-a_1.2.2.2.2.2.1)+1) ((X.length:Int),((X.length+(u1.length+u2.length):Nat):Int),((X.length+(u1.length+u2.length)+(v1.length+v2.length):Nat):Int),(M:Int),((M+(X.length+(u1.length+u2.length)):Nat):Int),(lo:Int),(hi:Int),((M+(X.length+(u1.length+u2.length))-1:Nat):Int),X++(u1++u2)++(v1++v2)++Y,())=some (false,((X.length:Int),((X.length+(u1.length+u2.length):Nat):Int),((X.length+(u1.length+u2.length)+(v1.length+v2.length):Nat):Int),(M:Int),((M+(X.length+(u1.length+u2.length)):Nat):Int),((X.length+n1:Nat):Int),((X.length+n1:Nat):Int),((M+(X.length+(u1.length+u2.length))-1:Nat):Int),X++(u1++u2)++(v1++v2)++Y,())):=hrun;simp only[ZsS,Zde,RT.val,w0,w1,w2,w3,w4,Ym,Yt,Ya,Yc,hlh.1,hlh.2,hst,okB,getO,w5,imp hrot,Int.toNat_natCast,hrotX,imp hs1,hsX1,imp hs2,hsX2]
theorem ZYF (k:Int) (X U V Y:List Cell) (hU:0<U.length) (hV:0<V.length) (sU:Srt U) (sV:Srt V) (hk:((U.length+V.length:Nat):Int)<=k+1) (hm:(X++U++V++Y).length<=most):
  (ZsS k (X++U++V++Y) X.length (X.length+U.length:Nat) (X.length+U.length+V.length:Nat)).val=some (X++isort (U++V)++Y):=by
 by_cases h1:U.length=1
 ·obtain⟨x,rfl⟩:=List.length_eq_one_iff.1 h1;exact ZYG k X V Y x hV sV hm
 ·by_cases h2:V.length=1
  ·obtain⟨y,rfl⟩:=List.length_eq_one_iff.1 h2;exact ZTS k X U Y y (by omega) sU hm
  ·exact ZYI k X U V Y (by omega) (by omega) sU sV hk hm
theorem ZF0:∀n:Nat,Za Tryz.prog 305 (ZYJ (n:Int))
 |0=>Za.st_never Tryz.call305 λa=>by
  obtain⟨l,a,m,b⟩:=a;have:Ziw ((0:Nat):Int) l a m b=false:=by
   cases h:Ziw ((0:Nat):Int) l a m b with
   |false=>rfl
   |true=>
    exfalso;simp only[Ziw,ZiB,Yb,Yk,YP] at h;obtain⟨⟨⟨⟨⟨⟨⟨p1,p2⟩,p3⟩,p4⟩,p5⟩,p6⟩,p7⟩,p8⟩:=h;omega
  simp only[this]
 |n+1=>ZTI (n:Int) (ZF0 n) λa h1 h2 hp=>by
  obtain⟨l,a,m,b⟩:=a;have hp:Ziw ((n+1:Nat):Int) l a m b=true:=by cases h:Ziw ((n+1:Nat):Int) l a m b<;>simp_all
  simp only[Ziw,ZiB,Yb,Yk,YP] at hp;obtain⟨⟨⟨⟨⟨⟨⟨p1,p2⟩,p3⟩,p4⟩,p5⟩,p6⟩,p7⟩,p8⟩:=hp;obtain⟨a,rfl⟩:=YY p1;obtain⟨m,rfl⟩:=YY (show (0:Int)<=m by omega);obtain⟨b,rfl⟩:=YY (show (0:Int)<=b by omega);obtain⟨X,U,V,Y,rfl,rfl,rfl,rfl⟩:=ZXr l a m b (by omega) (by omega) (by omega);obtain⟨s1,s2⟩:=sub3 X U V Y;simp only[Int.toNat_natCast,s1,s2] at p7 p8;have:=ZYF (n:Int) X U V Y (by omega) (by omega) (Zff.1 p7) (Zff.1 p8) (by omega) p5;simp only[Int.toNat_natCast];rw[this,Yo X U V,ZmM X (U++V) Y _ (by simp;omega)]
def Zf5 (l:List Cell) (a m b:Int):Bool:=ZiB l a m b&&srtB ((l.drop a.toNat).take (m.toNat-a.toNat))&&srtB ((l.drop m.toNat).take (b.toNat-m.toNat))
def ZqV:En:=stE Zci ZsU 160 ZAT (λa=>some (Zf5 a.1 a.2.1 a.2.2.1 a.2.2.2)) (λa=>Zdt a.1 a.2.1.toNat a.2.2.2.toNat)
theorem Zls:Za Tryz.prog 305 ZqV:=Zf8 (ZF0 most) λa h1 h2 hp=>⟨by
 obtain⟨l,a,m,b⟩:=a;have hp:Zf5 l a m b=true:=by cases h:Zf5 l a m b<;>simp_all
 simp only[Zf5,Yb] at hp;have hk:decide (b-a<=((most:Nat):Int))=true:=by
  have:=hp.1.1;simp only[ZiB,Yb,Yk,YP] at this;obtain⟨⟨⟨⟨p1,p2⟩,p3⟩,p4⟩,p5⟩:=this;refine Yz ?_;have key:∀(a b:Int) (n:Nat),0<=a->b<=(n:Int)->n<=most->b-a<=((most:Nat):Int):=by intros;omega
  exact key a b _ p1 p4 p5
 simp only[Ziw,hp.1.1,hp.1.2,hp.2,hk,YV];simp,rfl⟩
abbrev ZAV:List Sh:=[So Kc]
def ZTO:LS:={n:=63,Sl:=[(0,.tip 0),(1,.code (So Kc)),(2,.fix (A.clo 160 [])),(6,.code (So Kc)),(7,.code (So Kc)),(8,.code (So Kc))],Bx:=[],Sg:=[⟨R.Pq Kb Ka,75,false⟩],keep:=[0]}
def ZgU (a:QT8):RT (Option (Go1 (QT8))):=
 .br (decide (a.2.2.2.1<=a.1)) (.br (Zgd a.2.2.2.2.1 a.2.2.1 a.2.2.2.1) (Ls (Go1.cont (a.1,a.2.1,a.2.2.2.1,i64.wrap (a.2.2.2.1+a.2.1),Zdt a.2.2.2.2.1 (Int.toNat a.2.2.1) (Int.toNat a.2.2.2.1),PUnit.unit))) Ln) (Ls (Go1.brk (a.1,a.2.1,a.2.2.1,a.2.2.2.1,a.2.2.2.2.1,PUnit.unit)))
def ZFU:Ora:=ZaB false ZTO ZgU (λa=>(a.1-a.2.2.2.1).toNat+2)
theorem ZIV:Zal (envX prog [(304,ZqZ),(305,ZqV),(160,ZbA)] [] 1023 8) (.block 0 (.loop (ZQ Tryz.f234.body 0))) ZFU:=
 loopP ⟨Zlv,Zls,Zav,Tv⟩
def ZTN:LS:={n:=63,Sl:=[(0,.tip 0),(1,.code (So Kc)),(2,.fix (A.clo 160 [])),(6,.code (So Kc)),(7,.code (So Kc)),(8,.code (So Kc))],Bx:=[],Sg:=[⟨R.Pq Kb Ka,75,false⟩],keep:=[0]}
def ZgT (a:QT8):RT (Option (Go1 (QT8))):=
 .br (decide (a.2.2.2.1<=a.1)) (.br (Zf5 a.2.2.2.2.1 a.2.2.1 (i64.wrap (a.2.2.1+a.2.1)) a.2.2.2.1) (Ls (Go1.cont (a.1,a.2.1,a.2.2.2.1,i64.wrap (a.2.2.2.1+i64.wrap (2*a.2.1)),Zdt a.2.2.2.2.1 (Int.toNat a.2.2.1) (Int.toNat a.2.2.2.1),PUnit.unit))) Ln) (Ls (Go1.brk (a.1,a.2.1,a.2.2.1,a.2.2.2.1,a.2.2.2.2.1,PUnit.unit)))
def Zlt:Ora:=ZaB false ZTN ZgT (λa=>(a.1-a.2.2.2.1).toNat+2)
theorem ZqW:Zal (envX prog [(304,ZqZ),(305,ZqV),(160,ZbA)] [] 1023 8) (.block 4 (.loop (ZQ Tryz.f234.body 4))) Zlt:=
 loopP ⟨Zlv,Zls,Zav,Tv⟩
def ZTM:LS:={n:=63,Sl:=[(0,.tip 0),(1,.code (So Kc)),(2,.fix (A.clo 160 [])),(6,.code (So Kc))],Bx:=[],Sg:=[⟨R.Pq Kb Ka,75,false⟩],keep:=[0]}
def Zfb (a:QT13):RT (Option (Go1 (QT13))):=
 let x1:QT8:=(a.1,a.2.1,0,i64.wrap (2*a.2.1),a.2.2.1,())
 let x2:=runF false ZgT (λa_1=>Int.toNat (a_1.1-a_1.2.2.2.1)+2) x1
 let x3:=okB x2
 let x4:QT8:=(getO (false,x1) x2).2
 let x5:=x4.2
 let x6:=x5.2
 let x7:=x6.1
 let x8:=x5.1
 let x9:=i64.wrap (x7+x8)
 let x10:=x4.1
 let x11:=decide (x9<x10)
 let x12:=x6.2.2.1
 .br (decide (a.2.1<a.1)) (.br (!x3||(!x11||Zf5 x12 x7 x9 x10)) (.br (x3) (Ls (Go1.cont (x10,i64.wrap (x8*2),bif x11 then Zdt x12 (Int.toNat x7) (Int.toNat x10) else x12,PUnit.unit))) Ln) Ln) (Ls (Go1.brk (a.1,a.2.1,a.2.2.1,PUnit.unit)))
def ZFT:Ora:=ZaB false ZTM Zfb (λa=>(a.1-a.2.1).toNat+1)
theorem ZIU:Zal (envX prog [(304,ZqZ),(305,ZqV),(160,ZbA)] [(4,Zlt)] 1023 8) (.block 2 (.loop (ZQ Tryz.f234.body 2))) ZFT:=
 ZgB (Zbv (l:=[(304,ZqZ),(305,ZqV),(160,ZbA)]) ⟨Zlv,Zls,Zav,Tv⟩ [(4,Zlt)] 1023 8) (Zfq (by kernel_rfl) (by kernel_rfl) ⟨ZqW,Tv⟩) (λa=>by kernel_rfl)
def ZxF (s:List (Int×Int)) (n:Int):RT (Option (List (Int×Int))):=
 let x1:QT8:=(n,20,0,20,Stg.l (Zde Zci ZsU s),())
 let x2:=runF false ZgU (λa=>Int.toNat (a.1-a.2.2.2.1)+2) x1
 let x3:QT8:=(getO (false,x1) x2).2
 let x4:=x3.2
 let x5:=x4.2
 let x6:=x5.2.2.1
 let x7:=x5.1
 let x8:=x3.1
 let x9:QT13:=(x8,x4.1,Zdt x6 (Int.toNat x7) (Int.toNat x8),())
 let x10:=runF false Zfb (λa=>Int.toNat (a.1-a.2.1)+1) x9
 .br (okB x2) (.br (Zgd x6 x7 x8) (.br (okB x10) (Ls (getO (false,x9) x10).2.2.2.1) Ln) Ln) Ln
def Z1c (s:List (Int×Int)) (n:Int):List (Int×Int):=getO [] (ZxF s n).val
def ZWy (s:List (Int×Int)) (n:Int):Bool:=okB (ZxF s n).val
def Z1b:En:=stE Zci ZsU 160 ZAV (λa=>some (ZWy a.1 a.2)) (λa=>Z1c a.1 a.2)
theorem ZTL:Za prog 234 Z1b:=
 ZmL (P:=prog) (n:=1023) (k:=8) (l:=[(304,ZqZ),(305,ZqV),(160,ZbA)]) (ol:=[(0,ZFU),(4,Zlt),(2,ZFT)]) ⟨Zlv,Zls,Zav,Tv⟩ Tryz.func234 rfl (by kernel_rfl) Tryz.call234 ⟨ZIV,ZqW,ZIU,Tv⟩ (r:=Zci) (T:=ZsU) (g0:=160) (ts:=ZAV) (t:=λa=>ZxF a.1 a.2) (λa=>by kernel_rfl)
def sb (s:List Cell) (c d:Nat):List Cell:=(s.drop c).take (d-c)
theorem ZN1 (X T:List Cell) (c d:Nat) (h:d<=X.length):sb (X++T) c d=sb X c d:=by
 unfold sb;by_cases hc:c<=X.length
 ·rw[List.drop_append_of_le_length hc,List.take_append_of_le_length (by simp;omega)]
 ·rw[show d-c=0 by omega];simp
theorem ZWG (X L Y:List Cell):sb (X++L++Y) X.length (X.length+L.length)=L:=by unfold sb;rw[Yo,Y9 rfl,Yal (by omega)]
theorem ZN0 (X T:List Cell) (c d:Nat) (h:X.length<=c):sb (X++T) c d=sb T (c-X.length) (d-X.length):=by unfold sb;rw[List.drop_append,Y2 h,List.nil_append];congr 1;omega
theorem Zfg (s:List Cell) (a b:Nat) (h1:a<=b) (h2:b<=s.length):
  (Zdt s a b).length=s.length/\Sm (Zdt s a b) s/\(∀c d,d<=a->sb (Zdt s a b) c d=sb s c d)/\(∀c d,b<=c->sb (Zdt s a b) c d=sb s c d)/\sb (Zdt s a b) a b=isort (sb s a b):=by
 obtain⟨X,L,Y,rfl,rfl,rfl⟩:=ZXs s a b h1 h2;rw[Zs3,ZWG];refine⟨by simp[Zec],((Sm.refl X).app (Zfr L)).app (Sm.refl Y),λc d h=> ?_,λc d h=> ?_,?_⟩
 ·rw[Yo,Yo,ZN1 _ _ _ _ h,ZN1 _ _ _ _ h]
 ·rw[ZN0 (X++isort L) Y c d (by simp[Zec];omega),ZN0 (X++L) Y c d (by simp;omega)];simp[Zec]
 ·have:=ZWG X (isort L) Y;rwa [Zec] at this
def Blk (w:Nat) (s:List Cell):Prop:=∀i,Srt (sb s (w*i) (w*i+w))
theorem Zta (s:List Cell) (c d:Nat) (h:s.length<=d):sb s c d=s.drop c:=by unfold sb;exact Y4 (by simp;omega)
theorem ZNZ (s:List Cell) (c d:Nat) (h:s.length<=c):sb s c d=[]:=by unfold sb;rw[Y2 h];simp
theorem Zrh (s:List Cell) (a b:Nat) (h1:a<=b) (h2:b<=s.length) (hm:s.length<=most):Zgd s a b=true:=by simp only[Zgd,Yb,Yk,YP];omega
theorem loop0 (L:List Cell) (hm:L.length<=most):
  ∃r,runF false ZgU (λa=>Int.toNat (a.1-a.2.2.2.1)+2) ((L.length:Int),20,0,20,L,())=some r/\
   ∃(j:Nat) (s:List Cell),r.2=((L.length:Int),20,((20*j:Nat):Int),((20*j+20:Nat):Int),s,())/\20*j<=L.length/\L.length<20*j+20/\s.length=L.length/\Sm s L/\∀i,i<j->Srt (sb s (20*i) (20*i+20)):=by
 have hms:=mst;refine ZC (fl:=false) (t:=ZgU) (fuel:=λa=>Int.toNat (a.1-a.2.2.2.1)+2)
  (I:=λa=>∃(j:Nat) (s:List Cell),a=((L.length:Int),20,((20*j:Nat):Int),((20*j+20:Nat):Int),s,())/\20*j<=L.length/\s.length=L.length/\Sm s L/\∀i,i<j->Srt (sb s (20*i) (20*i+20)))
  (m:=λa=>Int.toNat (a.1-a.2.2.2.1+1)) (R:=λr=>∃(j:Nat) (s:List Cell),r.2=((L.length:Int),20,((20*j:Nat):Int),((20*j+20:Nat):Int),s,())/\20*j<=L.length/\L.length<20*j+20/\s.length=L.length/\Sm s L/\∀i,i<j->Srt (sb s (20*i) (20*i+20)))
  (λa hi=> ?_) _ ⟨0,L,by simp,by omega,rfl,Sm.refl L,λi h=>by omega⟩ (by simp only;omega)
 obtain⟨j,s,rfl,h1,h2,h3,h4⟩:=hi;by_cases hb:20*j+20<=L.length
 ·left;have d:decide (((20*j+20:Nat):Int)<=(L.length:Int))=true:=by simp;omega
  have hr:=Zrh s (20*j) (20*j+20) (by omega) (by omega) (by omega);have w:IntKind.wrap .i64 (((20*j+20:Nat):Int)+20)=((20*(j+1)+20:Nat):Int):=by rw[wrap_i64 _ (by omega) (by omega)];omega
  obtain⟨f1,f2,f3,f4,f5⟩:=Zfg s (20*j) (20*j+20) (by omega) (by omega);refine⟨((L.length:Int),20,((20*j+20:Nat):Int),((20*(j+1)+20:Nat):Int),Zdt s (20*j) (20*j+20),()),?_,⟨j+1,_,rfl,by omega,by omega,f2.trans h3,λi hi=> ?_⟩,by simp only;omega⟩
  ·simp only[ZgU,RT.val,d,hr,Ya,w,Int.toNat_natCast]
  ·by_cases hij:i=j
   ·subst hij;rw[f5];exact ZbI _
   ·rw[f3 _ _ (by omega)];exact h4 i (by omega)
 ·right;left;have d:decide (((20*j+20:Nat):Int)<=(L.length:Int))=false:=by simp;omega
  exact⟨_,by simp only[ZgU,RT.val,d,Yc],j,s,rfl,h1,by omega,h2,h3,h4⟩
theorem ZxL (s:List Cell) (a m b:Nat) (h1:a<m) (h2:m<b) (h3:b<=s.length) (hm:s.length<=most) (k1:Srt (sb s a m)) (k2:Srt (sb s m b)):Zf5 s a m b=true:=by simp only[Zf5,Int.toNat_natCast,Yb];refine⟨⟨?_,Zff.2 k1⟩,Zff.2 k2⟩;simp only[ZiB,Yb,Yk,YP];omega
theorem loop1 (L:List Cell) (w n:Nat) (hn:n=L.length) (hw:0<w) (hw2:w<=2*most) (hm:L.length<=most) (hB:Blk w L):
  ∃r,runF false ZgT (λa=>Int.toNat (a.1-a.2.2.2.1)+2) ((n:Int),(w:Int),0,((2*w:Nat):Int),L,())=some r/\
   ∃(j:Nat) (s:List Cell),r.2=((n:Int),(w:Int),((2*w*j:Nat):Int),((2*w*j+2*w:Nat):Int),s,())/\2*w*j<=n/\n<2*w*j+2*w/\s.length=n/\Sm s L/\(∀i,i<j->Srt (sb s (2*w*i) (2*w*i+2*w)))/\∀i,2*w*j<=w*i->Srt (sb s (w*i) (w*i+w)):=by
 have hms:=mst;refine ZC (fl:=false) (t:=ZgT) (fuel:=λa=>Int.toNat (a.1-a.2.2.2.1)+2)
  (I:=λa=>∃(j:Nat) (s:List Cell),a=((n:Int),(w:Int),((2*w*j:Nat):Int),((2*w*j+2*w:Nat):Int),s,())/\2*w*j<=n/\s.length=n/\Sm s L/\(∀i,i<j->Srt (sb s (2*w*i) (2*w*i+2*w)))/\∀i,2*w*j<=w*i->Srt (sb s (w*i) (w*i+w)))
  (m:=λa=>Int.toNat (a.1-a.2.2.2.1+1)) (R:=λr=>∃(j:Nat) (s:List Cell),r.2=((n:Int),(w:Int),((2*w*j:Nat):Int),((2*w*j+2*w:Nat):Int),s,())/\2*w*j<=n/\n<2*w*j+2*w/\s.length=n/\Sm s L/\(∀i,i<j->Srt (sb s (2*w*i) (2*w*i+2*w)))/\∀i,2*w*j<=w*i->Srt (sb s (w*i) (w*i+w)))
  (λa hi=> ?_) _ ⟨0,L,by simp,by omega,hn.symm,Sm.refl L,λi h=>by omega,λi _=>hB i⟩ (by simp only;omega)
 obtain⟨j,s,rfl,h1,h2,h3,h4,h5⟩:=hi;have q1:2*w*(j+1)=2*w*j+2*w:=by rw[Nat.mul_add];omega
 by_cases hb:2*w*j+2*w<=n
 ·left;have d:decide (((2*w*j+2*w:Nat):Int)<=(n:Int))=true:=Yz (Int.ofNat_le.2 hb);have e1:IntKind.wrap .i64 (((2*w*j:Nat):Int)+(w:Int))=((2*w*j+w:Nat):Int):=wadd _ _ (by omega);have e2:IntKind.wrap .i64 (2*(w:Int))=((2*w:Nat):Int):=by rw[wrap_i64 _ (by omega) (by omega)];omega
  have e3:IntKind.wrap .i64 (((2*w*j+2*w:Nat):Int)+((2*w:Nat):Int))=((2*w*(j+1)+2*w:Nat):Int):=by rw[wadd _ _ (by omega),q1]
  have hr:=ZxL s (2*w*j) (2*w*j+w) (2*w*j+2*w) (by omega) (by omega) (by omega) (by omega)
   (by have:=h5 (2*j) (by rw[show w*(2*j)=2*w*j by rw[Nat.mul_left_comm,Nat.mul_assoc]];exact Ye _);rwa [show w*(2*j)=2*w*j by rw[Nat.mul_left_comm,Nat.mul_assoc]] at this)
   (by
    have e:w*(2*j+1)=2*w*j+w:=by rw[Nat.mul_add,Nat.mul_left_comm,Nat.mul_assoc];omega
    have:=h5 (2*j+1) (by rw[e];omega);rw[e] at this
    rwa [show 2*w*j+w+w=2*w*j+2*w by omega] at this)
  obtain⟨f1,f2,f3,f4,f5⟩:=Zfg s (2*w*j) (2*w*j+2*w) (by omega) (by omega);refine⟨((n:Int),(w:Int),((2*w*j+2*w:Nat):Int),((2*w*(j+1)+2*w:Nat):Int),Zdt s (2*w*j) (2*w*j+2*w),()),?_,⟨j+1,_,by rw[q1],by omega,by omega,f2.trans h3,λi hi=> ?_,λi hi=> ?_⟩,by simp only;omega⟩
  ·simp only[ZgT,RT.val,d,e1,e2,hr,Ya,e3,Int.toNat_natCast]
  ·by_cases hij:i=j
   ·subst hij;rw[f5];exact ZbI _
   ·have:2*w*i+2*w<=2*w*j:=by have:=YaE (2*w) (show i+1<=j by omega);rw[Nat.mul_add] at this;omega
    rw[f3 _ _ this];exact h4 i (by omega)
  ·rw[f4 _ _ (by omega)];exact h5 i (by omega)
 ·right;left;have d:decide (((2*w*j+2*w:Nat):Int)<=(n:Int))=false:=Y0 (λh=>hb (Int.ofNat_le.1 h));exact⟨_,by simp only[ZgT,RT.val,d,Yc],j,s,rfl,h1,by omega,h2,h3,h4,h5⟩
theorem loop2 (L:List Cell) (n:Nat) (hn:n=L.length) (hm:L.length<=most) (hB:Blk 20 L):
  ∃r,runF false Zfb (λa=>Int.toNat (a.1-a.2.1)+1) ((n:Int),20,L,())=some r/\r.2.2.2.1=isort L:=by
 have hms:=mst;refine ZC (fl:=false) (t:=Zfb) (fuel:=λa=>Int.toNat (a.1-a.2.1)+1)
  (I:=λa=>∃(w:Nat) (s:List Cell),a=((n:Int),(w:Int),s,())/\0<w/\w<=2*most/\s.length=n/\Sm s L/\Blk w s)
  (m:=λa=>Int.toNat (a.1-a.2.1)) (R:=λr=>r.2.2.2.1=isort L)
  (λa hi=> ?_) _ ⟨20,L,by simp,by omega,by omega,hn.symm,Sm.refl L,hB⟩ (Yaw _)
 obtain⟨w,s,rfl,h0,h1,h2,h3,h4⟩:=hi;by_cases hb:w<n
 ·left;have d:decide ((w:Int)<(n:Int))=true:=by simpa using hb
  have e0:IntKind.wrap .i64 (2*(w:Int))=((2*w:Nat):Int):=by rw[wrap_i64 _ (by omega) (by omega)];omega
  obtain⟨r,hr,j,t,hr2,k1,k2,k3,k4,k5,k6⟩:=loop1 s w n h2.symm h0 h1 (by omega) h4;have e1:IntKind.wrap .i64 (((2*w*j:Nat):Int)+(w:Int))=((2*w*j+w:Nat):Int):=wadd _ _ (by omega);have e2:IntKind.wrap .i64 ((w:Int)*2)=((2*w:Nat):Int):=by rw[wrap_i64 _ (by omega) (by omega)];omega
  have eA:w*(2*j)=2*w*j:=by rw[Nat.mul_left_comm,Nat.mul_assoc]
  have eB:w*(2*j+1)=2*w*j+w:=by rw[Nat.mul_add,eA];omega
  have s1:=k6 (2*j) (by rw[eA];exact Ye _);have s2:=k6 (2*j+1) (by rw[eB];omega);rw[eA] at s1;rw[eB] at s2;have tail:∀i,j<i->n<=2*w*i:=λi hi=>by have:=YaE (2*w) (show j+1<=i by omega);rw[Nat.mul_add] at this;omega
  by_cases hm2:2*w*j+w<n
  ·have d2:decide (((2*w*j+w:Nat):Int)<(n:Int))=true:=Yz (Int.ofNat_lt.2 hm2);have s2':Srt (sb t (2*w*j+w) n):=by rw[Zta _ _ _ (by omega)];rwa [Zta _ _ _ (by omega)] at s2
   have ho:=ZxL t (2*w*j) (2*w*j+w) n (by omega) hm2 (by omega) (by omega) s1 s2';obtain⟨f1,f2,f3,f4,f5⟩:=Zfg t (2*w*j) n (by omega) (by omega);refine⟨((n:Int),((2*w:Nat):Int),Zdt t (2*w*j) n,()),?_,⟨2*w,_,rfl,by omega,by omega,by omega,f2.trans (k4.trans h3),λi=> ?_⟩,by simp only;omega⟩
   ·simp only[Zfb,RT.val,d,e0,hr,hr2,okB,getO,Ya,e1,d2,ho,e2,Yg,Yj,Yf,Int.toNat_natCast]
   ·rcases Nat.lt_trichotomy i j with hij|hij|hij
    ·have:2*w*i+2*w<=2*w*j:=by have:=YaE (2*w) (show i+1<=j by omega);rw[Nat.mul_add] at this;omega
     rw[f3 _ _ this];exact k5 i hij
    ·subst hij;rw[Zta _ _ _ (by omega),<-Zta _ _ n (by omega),f5];exact ZbI _
    ·rw[ZNZ _ _ _ (by have:=tail i hij;omega)];exact Yae
  ·have d2:decide (((2*w*j+w:Nat):Int)<(n:Int))=false:=Y0 (λh=>hm2 (Int.ofNat_lt.1 h));refine⟨((n:Int),((2*w:Nat):Int),t,()),?_,⟨2*w,_,rfl,by omega,by omega,by omega,k4.trans h3,λi=> ?_⟩,by simp only;omega⟩
   ·simp only[Zfb,RT.val,d,e0,hr,hr2,okB,getO,Ya,Yc,e1,d2,e2,Yg,Ym,Yt,Yj,Yf,Int.toNat_natCast]
   ·rcases Nat.lt_trichotomy i j with hij|hij|hij
    ·exact k5 i hij
    ·subst hij;rw[Zta _ _ _ (by omega)];rwa [Zta _ _ _ (by omega)] at s1
    ·rw[ZNZ _ _ _ (by have:=tail i hij;omega)];exact Yae
 ·right;left;have d:decide ((w:Int)<(n:Int))=false:=by simpa using hb
  refine⟨((n:Int),(w:Int),s,()),by simp only[Zfb,RT.val,d,Yc],?_⟩;have:=h4 0;rw[Zta _ _ _ (by omega)] at this;exact (Zhi (by simpa using this) h3).symm
theorem ZTX (L:List Cell) (hm:L.length<=most):(ZxF L L.length).val=some (isort L):=by
 have hms:=mst;obtain⟨r,hr,j,s,hr2,k1,k2,k3,k4,k5⟩:=loop0 L hm;have hok:=Zrh s (20*j) L.length k1 (by omega) (by omega);obtain⟨f1,f2,f3,f4,f5⟩:=Zfg s (20*j) L.length k1 (by omega)
 obtain⟨q,hq,hq2⟩:=loop2 (Zdt s (20*j) L.length) L.length (by omega) (by omega) (λi=>by
  rcases Nat.lt_trichotomy i j with hij|hij|hij
  ·rw[f3 _ _ (by omega)];exact k5 i hij
  ·subst hij;rw[Zta _ _ _ (by omega),<-Zta _ _ L.length (by omega),f5];exact ZbI _
  ·rw[ZNZ _ _ _ (by omega)];exact Yae)
 have hfin:isort (Zdt s (20*j) L.length)=isort L:=ZpI (f2.trans k4);simp only[ZxF,Zde,RT.val,hr,hr2,okB,getO,Ya,hok,Int.toNat_natCast,hq,hq2,hfin]
def ZmK (l:List Cell) (n:Int):Bool:=decide (n=l.length)&&Nat.ble l.length most
def ZNw:En:=stE Zci ZsU 160 ZAV (λa=>some (ZmK a.1 a.2)) (λa=>isort a.1)
theorem ZNv:Za Tryz.prog 234 ZNw:=Zf8 ZTL λa h1 h2 hp=>by
 obtain⟨l,n⟩:=a;have hp:ZmK l n=true:=by cases h:ZmK l n<;>simp_all
 simp only[ZmK,Yb,Yk,YP] at hp;obtain⟨rfl,p2⟩:=hp;have:=ZTX l p2;simp only[ZWy,Z1c];rw[this];simp[okB,getO]
abbrev ZwN:En:=Zz8 (R.Pq Kb Ka) ZsU
theorem Zp4:Za Tryz.prog 98 ZwN:=
 ZLR (P:=Tryz.prog) (n:=15) (k:=8) (l:=[]) (ol:=[]) trivial Tryz.func98 rfl (by kernel_rfl) Tryz.call98 trivial
  (λm=>⟨{chk:=none,v:=.w (.one .nilsl),m:=m,bd:=[],sd:=[]},by kernel_rfl,rfl,rfl⟩)
  (λm l h=>⟨{chk:=none,v:=.w (.one (.tip (len m.Sg) 0)),m:={m with Sg:=m.Sg++[Zlc (R.Pq (R.int u16) (R.int u8)) ZsU l]},bd:=[],sd:=[]},by
   have e:(ZM (envX Tryz.prog [] [] 15 8) Tryz.f98 [.w (.one (.lst (R.Pq (R.int u16) (R.int u8)) false false true l))] m).val=cond (Nat.ble ([]++l).length most) (some {chk:=none,v:=.w (.one (.tip (len m.Sg) 0)),m:={m with Sg:=m.Sg++[Zlc (R.Pq (R.int u16) (R.int u8)) ZsU ([]++l)]},bd:=[],sd:=[]}) none:=by kernel_rfl
   rw[e,List.nil_append,h];rfl,rfl,rfl⟩)
