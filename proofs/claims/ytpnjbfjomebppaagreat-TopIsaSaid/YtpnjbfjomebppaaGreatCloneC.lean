import Derived.Test.YtpnjbfjomebppaaGreatSortA
import Derived.Test.YtpnjbfjomebppaaGreatS3Nil
open Go.IntKind (u8 u16 i64)
set_option linter.unusedSimpArgs false
open Go Go.S3 Go.Proofs
set_option linter.unusedVariables false
set_option maxRecDepth 100000
namespace Go.Proofs.YtpnjbfjomebppaaGreat
noncomputable section
def ZVm:LS:={n:=58,Sl:=[(0,.tip 0),(2,.code (So Kc)),(4,.fix (A.clo 160 [])),(10,.code (So Kc)),(11,.code (So Kc))],Bx:=[],Sg:=[⟨R.Pq Kb Ka,75,false⟩],keep:=[0]}
def Zki (a:QT11):RT (Option (Go1 (QT11))):=
 let x1:= !decide (a.2.1>a.2.2.1)||ZhV a.2.2.2.1 (i64.wrap (a.1-a.2.1)) a.1 a.2.2.1
 let x2:=i64.wrap (i64.wrap (a.1+a.2.2.1)-a.2.1)
 .br (a.2.1 !=a.2.2.1) (.br (!x1||(decide (a.2.1>a.2.2.1)||ZhV a.2.2.2.1 (i64.wrap (a.1-a.2.1)) x2 a.2.1)) (.br (x1) (Ls (Go1.cont (a.1,bif decide (a.2.1>a.2.2.1) then i64.wrap (a.2.1-a.2.2.1) else a.2.1,bif decide (a.2.1>a.2.2.1) then a.2.2.1 else i64.wrap (a.2.2.1-a.2.1),bif decide (a.2.1>a.2.2.1) then ZzQ a.2.2.2.1 (Int.toNat (i64.wrap (a.1-a.2.1))) (Int.toNat a.1) (Int.toNat a.2.2.1) else ZzQ a.2.2.2.1 (Int.toNat (i64.wrap (a.1-a.2.1))) (Int.toNat x2) (Int.toNat a.2.1),PUnit.unit))) Ln) Ln) (Ls (Go1.brk (a.1,a.2.1,a.2.2.1,a.2.2.2.1,PUnit.unit)))
def ZJ2:Ora:=ZaY false ZVm Zki (λa=>(a.2.1+a.2.2.1).toNat+1)
theorem ZJ1:ZaB (envX Tryz.prog [(388,ZzH),(160,ZbV)] [] 4095 8) (.block 0 (.loop (ZX Tryz.f364.body 0))) ZJ2:=
 loopP ⟨Zv4,ZaC,Tv⟩
def ZJ0 (s:List (Int×Int)) (a:Int) (m:Int) (b:Int):RT (Option (List (Int×Int))):=
 let x1:QT11:=(m,i64.wrap (m-a),i64.wrap (b-m),Stg.l (ZdJ ZcR Zsc s),())
 let x2:=runF false Zki (λa_1=>Int.toNat (a_1.2.1+a_1.2.2.1)+1) x1
 let x3:QT11:=(getO (false,x1) x2).2
 let x4:=x3.2
 let x5:=x4.2.2.1
 let x6:=x3.1
 let x7:=x4.1
 let x8:=i64.wrap (x6-x7)
 .br (okB x2) (.br (ZhV x5 x8 x6 x7) (Ls (ZzQ x5 (Int.toNat x8) (Int.toNat x6) (Int.toNat x7))) Ln) Ln
def uRot (s:List (Int×Int)) (a:Int) (m:Int) (b:Int):List (Int×Int):=getO [] (ZJ0 s a m b).val
def ZYh (s:List (Int×Int)) (a:Int) (m:Int) (b:Int):Bool:=okB (ZJ0 s a m b).val
def uRotE:En:=stE ZcR Zsc 160 ZzG (λa=>some (ZYh a.1 a.2.1 a.2.2.1 a.2.2.2)) (λa=>uRot a.1 a.2.1 a.2.2.1 a.2.2.2)
theorem ZVl:Zb Tryz.prog 364 uRotE:=
 Zm3 (P:=Tryz.prog) (n:=4095) (k:=8) (l:=[(388,ZzH),(160,ZbV)]) (ol:=[(0,ZJ2)]) ⟨Zv4,ZaC,Tv⟩ Tryz.func364 rfl (by kernel_rfl) Tryz.call364 ⟨ZJ1,Tv⟩ (r:=ZcR) (T:=Zsc) (g0:=160) (ts:=ZzG) (t:=λa=>ZJ0 a.1 a.2.1 a.2.2.1 a.2.2.2) (λa=>by kernel_rfl)
end
end Go.Proofs.YtpnjbfjomebppaaGreat
open Go Go.S3 Go.Proofs Go.Proofs.Cells
namespace Go.Proofs.YtpnjbfjomebppaaGreat
noncomputable section
theorem ZKp (l:List Cell) (a b n:Nat) (h1:a+n<=b) (h2:b+n<=l.length):ZhV l a b n=true:=by simp only[ZhV,Yc,Yk];omega
theorem ZzP (A U M V B:List Cell) (a b n:Nat) (h:V.length=U.length) (ha:a=A.length) (hb:b=A.length+U.length+M.length) (hn:n=U.length):
  ZhV (A++U++M++V++B) a b n=true/\ZzQ (A++U++M++V++B) a b n=A++V++M++U++B:=by subst ha hb hn;exact⟨ZKp _ _ _ _ (by omega) (by simp;omega),ZDS A U M V B h⟩
theorem mst:most=1073741824:=rfl
theorem ZVF (X U V Y:List Cell) (hU:0<U.length) (hV:0<V.length) (hm:(X++U++V++Y).length<=most):
  (ZJ0 (X++U++V++Y) X.length (X.length+U.length:Nat) (X.length+U.length+V.length:Nat)).val=some (X++V++U++Y):=by
 have hms:=mst;simp only[Yd] at hm;obtain⟨r,hr,hR⟩:=ZA (fl:=false) (t:=Zki) (fuel:=λa=>Int.toNat (a.2.1+a.2.2.1)+1)
  (I:=λa=>∃A U' V' B:List Cell,0<U'.length/\0<V'.length/\A.length+U'.length=X.length+U.length/\U'.length+V'.length<=U.length+V.length/\(A++U'++V'++B).length<=most/\A++V'++U'++B=X++V++U++Y/\a=(((X.length+U.length:Nat):Int),(U'.length:Int),(V'.length:Int),A++U'++V'++B,()))
  (m:=λa=>Int.toNat (a.2.1+a.2.2.1)) (R:=λr=>∃A U' V' B:List Cell,0<U'.length/\V'.length=U'.length/\A.length+U'.length=X.length+U.length/\(A++U'++V'++B).length<=most/\A++V'++U'++B=X++V++U++Y/\r.2=(((X.length+U.length:Nat):Int),(U'.length:Int),(V'.length:Int),A++U'++V'++B,()))
  (λa hi=>by
   obtain⟨A,U',V',B,h1,h2,h3,h4,h5,h6,rfl⟩:=hi;have h5':=h5;simp only[Yd] at h5';have w1:IntKind.wrap .i64 (((X.length+U.length:Nat):Int)-(U'.length:Int))=((A.length:Nat):Int):=by rw[wrap_i64 _ (by omega) (by omega)];omega
   by_cases he:U'.length=V'.length
   ·right;left;refine⟨_,?_,A,U',V',B,h1,he.symm,h3,h5,h6,rfl⟩;have d:(((U'.length:Nat):Int) !=(V'.length:Int))=false:=by simp[he]
    simp only[Zki,RT.val,d,Yb]
   ·left;have d:(((U'.length:Nat):Int) !=(V'.length:Int))=true:=by simp;omega
    by_cases hlt:V'.length<U'.length
    ·obtain⟨U1,U2,rfl,hl⟩:=Zcb U' V'.length (by omega);simp only[Yd] at*;obtain⟨q1,q2⟩:=ZzP A U1 U2 V' B A.length (X.length+U.length) V'.length (by omega) rfl (by omega) (by omega);have e0:A++(U1++U2)++V'++B=A++U1++U2++V'++B:=by simp
     have g:decide (((U1.length+U2.length:Nat):Int)>(V'.length:Int))=true:=by simp;omega
     have w2:IntKind.wrap .i64 (((U1.length+U2.length:Nat):Int)-(V'.length:Int))=(U2.length:Int):=by rw[wrap_i64 _ (by omega) (by omega)];omega
     refine⟨(((X.length+U.length:Nat):Int),(U2.length:Int),(V'.length:Int),(A++V')++U2++U1++B,()),?_,⟨A++V',U2,U1,B,by omega,by omega,by simp;omega,by omega,by simp;omega,by rw[<-h6];simp,by rw[hl]⟩,by simp;omega⟩;rw[e0];simp only[Zki,RT.val,d,Ya,w1,g,q1,q2,Yf,Yj,Yv,w2,Int.toNat_natCast]
    ·obtain⟨V1,V2,rfl,hl⟩:=Zcb V' (V'.length-U'.length) (by omega);simp only[Yd] at*;obtain⟨q1,q2⟩:=ZzP A U' V1 V2 B A.length (X.length+U.length+V1.length) U'.length (by omega) rfl (by omega) rfl;have e0:A++U'++(V1++V2)++B=A++U'++V1++V2++B:=by simp
     have g:decide (((U'.length:Nat):Int)>((V1.length+V2.length:Nat):Int))=false:=by simp;omega
     have w2:IntKind.wrap .i64 (((V1.length+V2.length:Nat):Int)-(U'.length:Int))=(V1.length:Int):=by rw[wrap_i64 _ (by omega) (by omega)];omega
     have w3:IntKind.wrap .i64 (IntKind.wrap .i64 (((X.length+U.length:Nat):Int)+((V1.length+V2.length:Nat):Int))-(U'.length:Int))=((X.length+U.length+V1.length:Nat):Int):=by rw[wrap_i64 (((X.length+U.length:Nat):Int)+_) (by omega) (by omega),wrap_i64 _ (by omega) (by omega)];omega
     have hl2:U'.length=V2.length:=by omega
     refine⟨(((X.length+U.length:Nat):Int),(U'.length:Int),(V1.length:Int),A++V2++V1++U'++B,()),?_,⟨A,V2,V1,U'++B,by omega,by omega,by omega,by omega,by simp;omega,by rw[<-h6];simp,by rw[hl2];simp⟩,by simp;omega⟩;rw[e0];simp only[Zki,RT.val,d,Ya,w1,g,q1,q2,Yf,Yl,Yj,Yv,Yb,w2,w3,Int.toNat_natCast]
     )
  (((X.length+U.length:Nat):Int),(U.length:Int),(V.length:Int),X++U++V++Y,()) ⟨X,U,V,Y,hU,hV,rfl,by omega,by simp;omega,rfl,rfl⟩ (YaD _)
 obtain⟨A,U',V',B,h1,h2,h3,h5,h6,hr2⟩:=hR;have h5':=h5;simp only[Yd] at h5';have w0:IntKind.wrap .i64 (((X.length+U.length:Nat):Int)-(X.length:Int))=(U.length:Int):=by rw[wrap_i64 _ (by omega) (by omega)];omega
 have w0':IntKind.wrap .i64 (((X.length+U.length+V.length:Nat):Int)-((X.length+U.length:Nat):Int))=(V.length:Int):=by rw[wrap_i64 _ (by omega) (by omega)];omega
 have w1:IntKind.wrap .i64 (((X.length+U.length:Nat):Int)-(U'.length:Int))=((A.length:Nat):Int):=by rw[wrap_i64 _ (by omega) (by omega)];omega
 obtain⟨q1,q2⟩:=ZzP A U' [] V' B A.length (X.length+U.length) U'.length h2 rfl (by simp;omega) rfl;rw[Yt] at q1 q2;simp only[ZJ0,ZdJ,RT.val,w0,w0',hr,okB,getO,Ya,hr2,w1,q1,q2,Int.toNat_natCast,Yt,h6]
def rotX (l:List Cell) (a m b:Nat):List Cell:=l.take a++(l.drop m).take (b-m)++(l.drop a).take (m-a)++l.drop b
theorem ZKV (X U V Y:List Cell):rotX (X++U++V++Y) X.length (X.length+U.length) (X.length+U.length+V.length)=X++V++U++Y:=by
 unfold rotX;have e1:(X++U++V++Y).take X.length=X:=by simp[Yn]
 have e2:((X++U++V++Y).drop (X.length+U.length)).take (X.length+U.length+V.length-(X.length+U.length))=V:=by
  have:X++U++V++Y=(X++U)++(V++Y):=by simp
  rw[this,Yae (by simp),Yao (by omega)]
 have e3:((X++U++V++Y).drop X.length).take (X.length+U.length-X.length)=U:=by
  have:X++U++V++Y=X++(U++(V++Y)):=by simp
  rw[this,Yae rfl,Yao (by omega)]
 have e4:(X++U++V++Y).drop (X.length+U.length+V.length)=Y:=Yae (by simp;omega);rw[e1,e2,e3,e4]
theorem ZT5 {α:Type} (l:List α) (a m b:Nat) (h1:a<=m) (h2:m<=b) (h3:b<=l.length):∃X U V Y:List α,l=X++U++V++Y/\X.length=a/\X.length+U.length=m/\X.length+U.length+V.length=b:=by obtain⟨X,l1,rfl,hX⟩:=Zcb l a (by omega);simp only[Yd] at h3;obtain⟨U,l2,rfl,hU⟩:=Zcb l1 (m-a) (by omega);simp only[Yd] at h3;obtain⟨V,Y,rfl,hV⟩:=Zcb l2 (b-m) (by omega);exact⟨X,U,V,Y,by simp,hX,by omega,by omega⟩
def ZiY (l:List Cell) (a m b:Int):Bool:=decide (0<=a)&&decide (a<m)&&decide (m<b)&&decide (b<=l.length)&&Nat.ble l.length most
def ZmR:En:=stE ZcR Zsc 160 ZzG (λa=>some (ZiY a.1 a.2.1 a.2.2.1 a.2.2.2)) (λa=>rotX a.1 a.2.1.toNat a.2.2.1.toNat a.2.2.2.toNat)
theorem Zhj:Zb Tryz.prog 364 ZmR:=Zgz ZVl λa h1 h2 hp=>by
 obtain⟨l,a,m,b⟩:=a;have hp:ZiY l a m b=true:=by cases h:ZiY l a m b<;>simp_all
 simp only[ZiY,Yc,Yk,YG] at hp;obtain⟨⟨⟨⟨p1,p2⟩,p3⟩,p4⟩,p5⟩:=hp;obtain⟨a,rfl⟩:=Y5 p1;obtain⟨m,rfl⟩:=Y5 (show (0:Int)<=m by omega);obtain⟨b,rfl⟩:=Y5 (show (0:Int)<=b by omega);obtain⟨X,U,V,Y,rfl,rfl,rfl,rfl⟩:=ZT5 l a m b (by omega) (by omega) (by omega);have:=ZVF X U V Y (by omega) (by omega) p5;simp only[ZYh,uRot,Int.toNat_natCast];rw[this,ZKV];simp[okB,getO]
def srtB:List Cell->Bool
 |[]=>true
 |x::r=>(match r with
  |[]=>true
  |y::_=>decide (x.1<=y.1))&&srtB r
theorem ZfI:∀{l:List Cell},srtB l=true↔Srt l
 |[]=>by simp[srtB,Srt]
 |[x]=>by simp[srtB,Srt]
 |x::y::r=>by
  have ih:=ZfI (l:=y::r);rw[srtB];simp only[Yc,Yk,ih];constructor
  ·rintro⟨h1,h2⟩;refine YC.2 ⟨λz hz=> ?_,h2⟩;rcases YD.1 hz with rfl|hz
   ·exact h1
   ·have:=(YC.1 h2).1 z hz;omega
  ·intro h;have:=YC.1 h;exact⟨this.1 y (by simp),this.2⟩
def ZiP (k:Int) (l:List Cell) (a m b:Int):Bool:=ZiY l a m b&&decide (b-a<=k)&&srtB ((l.drop a.toNat).take (m.toNat-a.toNat))&&srtB ((l.drop m.toNat).take (b.toNat-m.toNat))
def ZVx (k:Int):En:=stE ZcR Zsc 160 ZzG (λa=>some (ZiP k a.1 a.2.1 a.2.2.1 a.2.2.2)) (λa=>ZdX a.1 a.2.1.toNat a.2.2.2.toNat)
end
end Go.Proofs.YtpnjbfjomebppaaGreat
open Go.Proofs.Tryz (prog)
namespace Go.Proofs.YtpnjbfjomebppaaGreat
noncomputable section
def ZVk:LS:={n:=220,Sl:=[(0,.tip 0),(1,.code (So Kc)),(4,.fix (A.clo 160 [])),(10,.code (So Kc)),(11,.code (So Kc))],Bx:=[],Sg:=[⟨R.Pq Kb Ka,75,false⟩],keep:=[0]}
def Zkh (a:QT11):RT (Option (Go1 (QT11))):=
 let x1:=i64.wrap (shrI IntKind.u64 (IntKind.u64.wrap (i64.wrap (a.2.1+a.2.2.1))) 1)
 let x2:=Zf x1 (Le a.2.2.2.1)
 let x3:= !x2||Zf a.1 (Le a.2.2.2.1)
 let x4:=decide (Zqm (R.get (R.Pq Kb Ka) a.2.2.2.1 x1) (R.get (R.Pq Kb Ka) a.2.2.2.1 a.1)<0)
 .br (decide (a.2.1<a.2.2.1)) (.br (!x3||x2) (.br (x3) (Ls (Go1.cont (a.1,bif x4 then i64.wrap (x1+1) else a.2.1,bif x4 then a.2.2.1 else x1,a.2.2.2.1,PUnit.unit))) Ln) Ln) (Ls (Go1.brk (a.1,a.2.1,a.2.2.1,a.2.2.2.1,PUnit.unit)))
def ZJV:Ora:=ZaY false ZVk Zkh (λa=>(a.2.2.1-a.2.1).toNat+1)
theorem ZJU:ZaB (envX prog [(364,ZmR),(160,ZbV)] [] 33554431 8) (.block 0 (.loop (ZX Tryz.f305.body 0))) ZJV:=
 loopP ⟨Zhj,ZaC,Tv⟩
def ZVj:LS:={n:=220,Sl:=[(0,.tip 0),(10,.code (So Kc)),(13,.code (So Kc))],Bx:=[],Sg:=[⟨R.Pq Kb Ka,75,false⟩],keep:=[0]}
def Zkg (a:QT14):RT (Option (Go1 (QT14))):=
 let x1:= !Zf (i64.wrap (a.2.1+1)) (Le a.2.2.1)
 let x2:=setI a.2.2.1 a.2.1 (R.get (R.Pq Kb Ka) a.2.2.1 (i64.wrap (a.2.1+1)))
 let x3:=x1||(!Zf a.2.1 (Le a.2.2.1)||(!Zf a.2.1 (Le a.2.2.1)||Zf (i64.wrap (a.2.1+1)) (Le x2)))
 let x4:= !x3
 let x5:=x1||(!Zf a.2.1 (Le a.2.2.1)||Zf a.2.1 (Le a.2.2.1))
 let x6:= !x5
 let x7:=x1||Zf a.2.1 (Le a.2.2.1)
 .br (decide (a.2.1<i64.wrap (a.1-1))) (.br (x4||(x6||(!x7||Zf (i64.wrap (a.2.1+1)) (Le a.2.2.1)))) (.br (x4||(x6||x7)) (.br (x4||x5) (.br (x3) (Ls (Go1.cont (a.1,i64.wrap (a.2.1+1),setI x2 (i64.wrap (a.2.1+1)) (R.get (R.Pq Kb Ka) a.2.2.1 a.2.1),PUnit.unit))) Ln) Ln) Ln) Ln) (Ls (Go1.brk (a.1,a.2.1,a.2.2.1,PUnit.unit)))
def ZJT:Ora:=ZaY false ZVj Zkg (λa=>(a.1-a.2.1).toNat+1)
theorem ZJS:ZaB (envX prog [(364,ZmR),(160,ZbV)] [] 33554431 8) (.block 2 (.loop (ZX Tryz.f305.body 2))) ZJT:=
 loopP ⟨Zhj,ZaC,Tv⟩
def ZVi:LS:={n:=220,Sl:=[(0,.tip 0),(2,.code (So Kc)),(4,.fix (A.clo 160 [])),(14,.code (So Kc)),(15,.code (So Kc))],Bx:=[],Sg:=[⟨R.Pq Kb Ka,75,false⟩],keep:=[0]}
def Zkf (a:QT11):RT (Option (Go1 (QT11))):=
 let x1:=i64.wrap (shrI IntKind.u64 (IntKind.u64.wrap (i64.wrap (a.2.1+a.2.2.1))) 1)
 let x2:= !Zf a.1 (Le a.2.2.2.1)||Zf x1 (Le a.2.2.2.1)
 let x3:= !decide (Zqm (R.get (R.Pq Kb Ka) a.2.2.2.1 a.1) (R.get (R.Pq Kb Ka) a.2.2.2.1 x1)<0)
 .br (decide (a.2.1<a.2.2.1)) (.br (!x2||Zf a.1 (Le a.2.2.2.1)) (.br (x2) (Ls (Go1.cont (a.1,bif x3 then i64.wrap (x1+1) else a.2.1,bif x3 then a.2.2.1 else x1,a.2.2.2.1,PUnit.unit))) Ln) Ln) (Ls (Go1.brk (a.1,a.2.1,a.2.2.1,a.2.2.2.1,PUnit.unit)))
def ZJR:Ora:=ZaY false ZVi Zkf (λa=>(a.2.2.1-a.2.1).toNat+1)
theorem ZJQ:ZaB (envX prog [(364,ZmR),(160,ZbV)] [] 33554431 8) (.block 4 (.loop (ZX Tryz.f305.body 4))) ZJR:=
 loopP ⟨Zhj,ZaC,Tv⟩
def ZVh:LS:={n:=220,Sl:=[(0,.tip 0),(14,.code (So Kc)),(17,.code (So Kc))],Bx:=[],Sg:=[⟨R.Pq Kb Ka,75,false⟩],keep:=[0]}
def Zke (a:QT14):RT (Option (Go1 (QT14))):=
 let x1:= !Zf (i64.wrap (a.2.1-1)) (Le a.2.2.1)
 let x2:=setI a.2.2.1 a.2.1 (R.get (R.Pq Kb Ka) a.2.2.1 (i64.wrap (a.2.1-1)))
 let x3:=x1||(!Zf a.2.1 (Le a.2.2.1)||(!Zf a.2.1 (Le a.2.2.1)||Zf (i64.wrap (a.2.1-1)) (Le x2)))
 let x4:= !x3
 let x5:=x1||(!Zf a.2.1 (Le a.2.2.1)||Zf a.2.1 (Le a.2.2.1))
 let x6:= !x5
 let x7:=x1||Zf a.2.1 (Le a.2.2.1)
 .br (decide (a.2.1>a.1)) (.br (x4||(x6||(!x7||Zf (i64.wrap (a.2.1-1)) (Le a.2.2.1)))) (.br (x4||(x6||x7)) (.br (x4||x5) (.br (x3) (Ls (Go1.cont (a.1,i64.wrap (a.2.1-1),setI x2 (i64.wrap (a.2.1-1)) (R.get (R.Pq Kb Ka) a.2.2.1 a.2.1),PUnit.unit))) Ln) Ln) Ln) Ln) (Ls (Go1.brk (a.1,a.2.1,a.2.2.1,PUnit.unit)))
def ZJP:Ora:=ZaY false ZVh Zke (λa=>(a.2.1-a.1).toNat+1)
theorem ZJO:ZaB (envX prog [(364,ZmR),(160,ZbV)] [] 33554431 8) (.block 6 (.loop (ZX Tryz.f305.body 6))) ZJP:=
 loopP ⟨Zhj,ZaC,Tv⟩
def ZVg:LS:={n:=220,Sl:=[(0,.tip 0),(1,.code (So Kc)),(2,.code (So Kc)),(3,.code (So Kc)),(4,.fix (A.clo 160 [])),(18,.code (So Kc)),(19,.code (So Kc)),(20,.code (So Kc)),(21,.code (So Kc)),(22,.code (So Kc))],Bx:=[],Sg:=[⟨R.Pq Kb Ka,75,false⟩],keep:=[0]}
def Zkd (a:QT16):RT (Option (Go1 (QT16))):=
 let x1:=i64.wrap (shrI IntKind.u64 (IntKind.u64.wrap (i64.wrap (a.2.2.2.2.2.1+a.2.2.2.2.2.2.1))) 1)
 let x2:=i64.wrap (a.2.2.2.2.2.2.2.1-x1)
 let x3:=Zf x2 (Le a.2.2.2.2.2.2.2.2.1)
 let x4:= !x3||Zf x1 (Le a.2.2.2.2.2.2.2.2.1)
 let x5:= !decide (Zqm (R.get (R.Pq Kb Ka) a.2.2.2.2.2.2.2.2.1 x2) (R.get (R.Pq Kb Ka) a.2.2.2.2.2.2.2.2.1 x1)<0)
 let x6:Int×List (Int×Int)×PUnit:=(a.2.2.2.2.2.2.2.1,a.2.2.2.2.2.2.2.2.1,PUnit.unit)
 .br (decide (a.2.2.2.2.2.1<a.2.2.2.2.2.2.1)) (.br (!x4||x3) (.br (x4) (Ls (Go1.cont (a.1,a.2.1,a.2.2.1,a.2.2.2.1,a.2.2.2.2.1,bif x5 then i64.wrap (x1+1) else a.2.2.2.2.2.1,bif x5 then a.2.2.2.2.2.2.1 else x1,x6))) Ln) Ln) (Ls (Go1.brk (a.1,a.2.1,a.2.2.1,a.2.2.2.1,a.2.2.2.2.1,a.2.2.2.2.2.1,a.2.2.2.2.2.2.1,x6)))
def ZJN:Ora:=ZaY false ZVg Zkd (λa=>(a.2.2.2.2.2.2.1-a.2.2.2.2.2.1).toNat+1)
theorem ZJM:ZaB (envX prog [(364,ZmR),(160,ZbV)] [] 33554431 8) (.block 8 (.loop (ZX Tryz.f305.body 8))) ZJN:=
 loopP ⟨Zhj,ZaC,Tv⟩
def Zsa (k:Int) (s:List (Int×Int)) (a:Int) (m:Int) (b:Int):RT (Option (List (Int×Int))):=
 let x1:=runF false Zkh (λa_1=>Int.toNat (a_1.2.2.1-a_1.2.1)+1) (a,m,b,Stg.l (ZdJ ZcR Zsc s),())
 let x2:QT11:=(getO (false,a,m,b,Stg.l (ZdJ ZcR Zsc s),()) x1).2
 let x3:=x2.2
 let x4:QT14:=(x3.1,x2.1,x3.2.2.1,())
 let x5:=runF false Zkg (λa_1=>Int.toNat (a_1.1-a_1.2.1)+1) x4
 let x6:=runF false Zkf (λa_1=>Int.toNat (a_1.2.2.1-a_1.2.1)+1) (m,a,m,Stg.l (ZdJ ZcR Zsc s),())
 let x7:QT11:=(getO (false,m,a,m,Stg.l (ZdJ ZcR Zsc s),()) x6).2
 let x8:=x7.2
 let x9:QT14:=(x8.1,x7.1,x8.2.2.1,())
 let x10:=runF false Zke (λa_1=>Int.toNat (a_1.2.1-a_1.1)+1) x9
 let x11:=i64.wrap (i64.wrap (shrI IntKind.u64 (IntKind.u64.wrap (i64.wrap (a+b))) 1)+m)
 let x12:=decide (m>i64.wrap (shrI IntKind.u64 (IntKind.u64.wrap (i64.wrap (a+b))) 1))
 let x13:QT16:=(a,m,b,i64.wrap (shrI IntKind.u64 (IntKind.u64.wrap (i64.wrap (a+b))) 1),x11,bif x12 then i64.wrap (x11-b) else a,bif x12 then i64.wrap (shrI IntKind.u64 (IntKind.u64.wrap (i64.wrap (a+b))) 1) else m,i64.wrap (x11-1),Stg.l (ZdJ ZcR Zsc s),())
 let x14:=runF false Zkd (λa_1=>Int.toNat (a_1.2.2.2.2.2.2.1-a_1.2.2.2.2.2.1)+1) x13
 let x15:QT16:=(getO (false,x13) x14).2
 let x16:=x15.2
 let x17:=x16.2
 let x18:=x17.2
 let x19:=x18.2
 let x20:=x19.2
 let x21:=x20.1
 let x22:=x16.1
 let x23:=i64.wrap (x19.1-x21)
 let x24:=decide (x21<x22)&&decide (x22<x23)
 let x25:=x20.2.2.2.1
 let x26:=x15.1
 let x27:=x18.1
 let x28:=decide (x26<x21)&&decide (x21<x27)
 let x29:List (Int×Int):=bif x24 then rotX x25 (Int.toNat x21) (Int.toNat x22) (Int.toNat x23) else x25
 let x30:=x17.1
 let x31:=decide (x27<x23)&&decide (x23<x30)
 let x32:Nat:=Int.toNat x27
 let x33:List (Int×Int):=bif x28 then ZdX x29 (Int.toNat x26) x32 else x29
 .br (!i64.wrap (m-a)==1||okB x1) (.br (!i64.wrap (m-a)==1||okB x5) (.br (i64.wrap (m-a)==1) (Ls (getO (false,x4) x5).2.2.2.1) (.br (!i64.wrap (b-m)==1||okB x6) (.br (!i64.wrap (b-m)==1||okB x10) (.br (i64.wrap (b-m)==1) (Ls (getO (false,x9) x10).2.2.2.1) (.br (okB x14) (.br (!x24||ZiY x25 x21 x22 x23) (.br (!x28||ZiP k x29 x26 x21 x27) (.br (!x31||ZiP k x33 x27 x23 x30) (Ls (bif x31 then ZdX x33 x32 (Int.toNat x30) else x33)) Ln) Ln) Ln) Ln)) Ln) Ln)) Ln) Ln
theorem ZQD (k:Int) (h:Zb prog 305 (ZVx k)) {pre:List ZcR.den×HL ZzG->Option Bool} {F:List ZcR.den×HL ZzG->List ZcR.den} (hF:∀a,(R.sl ZcR).ok a.1->okHL ZzG a.2->pre a≠some false->(Zsa k a.1 a.2.1 a.2.2.1 a.2.2.2).val=some (F a)):Zb prog 305 (stE ZcR Zsc 160 ZzG pre F):=
 ZYn (P:=prog) (n:=33554431) (k:=8) (l:=[(364,ZmR),(160,ZbV),(305,ZVx k)]) (ol:=[(0,ZJV),(2,ZJT),(4,ZJR),(6,ZJP),(8,ZJN)]) ⟨Zhj,ZaC,h,Tv⟩ Tryz.func305 rfl (by kernel_rfl) Tryz.call305 ⟨ZJU,ZJS,ZJQ,ZJO,ZJM,Tv⟩ (r:=ZcR) (T:=Zsc) (g0:=160) (ts:=ZzG) (t:=λa=>Zsa k a.1 a.2.1 a.2.2.1 a.2.2.2) (λa=>by kernel_rfl) hF
theorem ZpI (i j:Nat) (h:i+j<=4611686018427387904):IntKind.wrap .i64 (shrI .u64 (IntKind.wrap .u64 (IntKind.wrap .i64 ((i:Int)+(j:Int)))) 1)=(((i+j)/2:Nat):Int):=by
 rw[wrap_i64 ((i:Int)+(j:Int)) (by omega) (by omega)];have e:IntKind.wrap .u64 ((i:Int)+(j:Int))=((i+j:Nat):Int):=by rw[ZrZ ⟨by simp[IntKind.min,IntKind.signed];omega,by simp[IntKind.max,IntKind.signed,IntKind.bits];omega⟩];simp
 rw[e];have:shrI .u64 ((i+j:Nat):Int) 1=(((i+j)/2:Nat):Int):=by simp only[shrI,IntKind.bits];rw[show (2:Int)^(min (1:Int).toNat 64)=2 from rfl,Int.fdiv_eq_ediv_of_nonneg _ (by decide)];simp
 rw[this,wrap_i64 _ (by omega) (by omega)]
theorem ZP9 {D:Type} {T:D->RT (Option (Go1 D))} {fuel:D->Nat} (mk:Nat->Nat->D) (q:Nat->Bool) (lo hi:Nat) (hlo:lo<=hi) (hf:hi-lo<fuel (mk lo hi))
  (hstep:∀i j,lo<=i->i<j->j<=hi->(T (mk i j)).val=some (.cont (bif q ((i+j)/2) then mk ((i+j)/2+1) j else mk i ((i+j)/2))))
  (hend:∀i,lo<=i->i<=hi->(T (mk i i)).val=some (.brk (mk i i))):
  ∃i,lo<=i/\i<=hi/\runF false T fuel (mk lo hi)=some (false,mk i i)/\(i=lo\/q (i-1)=true)/\(i=hi\/q i=false):=by
 have key:∀(n i j:Nat),lo<=i->i<=j->j<=hi->j-i<n->(i=lo\/q (i-1)=true)->(j=hi\/q j=false)->
   ∃r,runL (λa=>(T a).val) n (mk i j)=some (false,mk r r)/\lo<=r/\r<=hi/\(r=lo\/q (r-1)=true)/\(r=hi\/q r=false):=by
  intro n
  induction n with
  |zero=>intro i j _ _ _ h;omega
  |succ n ih=>
   intro i j h1 h2 h3 h4 h5 h6;by_cases he:i=j
   ·subst he;exact⟨i,by simp only[runL,hend i h1 h3],h1,h3,h5,h6⟩
   ·have hs:=hstep i j h1 (by omega) h3;cases hq:q ((i+j)/2) with
    |true=>
     rw[hq] at hs;obtain⟨r,hr,hr2⟩:=ih ((i+j)/2+1) j (by omega) (by omega) h3 (by omega) (.inr (by simpa using hq)) h6;exact⟨r,by simp only[runL,hs,Ya];exact hr,hr2⟩
    |false=>
     rw[hq] at hs;obtain⟨r,hr,hr2⟩:=ih i ((i+j)/2) h1 (by omega) (by omega) (by omega) h5 (.inr hq);exact⟨r,by simp only[runL,hs,Yb];exact hr,hr2⟩
 obtain⟨r,hr,h1,h2,h3,h4⟩:=key (fuel (mk lo hi)) lo hi (Ye _) hlo (Ye _) hf (.inl rfl) (.inl rfl);exact⟨r,h1,h2,by unfold runF;rw[hr];rfl,h3,h4⟩
def el (l:List Cell) (i:Nat):Cell:=l.getD i (0,0)
theorem ZcB (l:List Cell) (i:Nat):R.get CR l (i:Int)=el l i:=by simp[R.get,el,R.Df]
theorem ZGv (X V Y:List Cell) (i:Nat) (h:i<V.length):el (X++V++Y) (X.length+i)=el V i:=by simp only[el,Ys];rw[Yn,YU (by omega),Nat.add_sub_cancel_left,Yp h]
theorem ZcO (V:List Cell) (i:Nat) (h:i<V.length):V[i]? =some (el V i):=by simp[el,Ys,Yh h]
variable {V:List Cell}
theorem Zlk (h:Srt V) {i j:Nat} (hij:i<=j) (hj:j<V.length):(el V i).1<=(el V j).1:=by
 by_cases e:i=j
 ·subst e;exact Int.le_refl _
 ·have h1:=ZcO V i (by omega);have h2:=ZcO V j hj;have:=YaG.1 h i j (by omega) hj (by omega);rw[Yh (by omega)] at h1 h2;simp only[oinj] at h1 h2;rw[<-h1,<-h2];exact this
variable {p:Nat} {y:Cell}
theorem Zmp (h:y∈V.take p):∃i,i<p/\i<V.length/\y=el V i:=by obtain⟨i,hi,rfl⟩:=YaO.1 h;simp only[YF] at hi;refine⟨i,by omega,by omega,?_⟩;have:=ZcO V i (by omega);rw[Yh (by omega)] at this;simp only[oinj] at this;rw[<-this];simp
theorem Zjy (h:y∈V.drop p):∃i,p<=i/\i<V.length/\y=el V i:=by obtain⟨i,hi,rfl⟩:=YaO.1 h;simp only[YR] at hi;refine⟨p+i,by omega,by omega,?_⟩;have:=ZcO V (p+i) (by omega);rw[Yh (by omega)] at this;simp only[oinj] at this;rw[<-this];simp
theorem ZYp (X P Rr:List Cell) (x:Cell) (hm:(X++x::(P++Rr)).length<=most):
  ∃r,runF false Zkg (λa=>Int.toNat (a.1-a.2.1)+1) (((X.length+P.length+1:Nat):Int),(X.length:Int),X++x::(P++Rr),())=some r/\r.2.2.2.1=X++P++x::Rr:=by
 have hms:=mst;simp only[Yd,List.length_cons] at hm;refine ZA (fl:=false) (t:=Zkg) (fuel:=λa=>Int.toNat (a.1-a.2.1)+1)
  (I:=λa=>∃P1 P2:List Cell,P=P1++P2/\a=(((X.length+P.length+1:Nat):Int),((X.length+P1.length:Nat):Int),X++P1++x::(P2++Rr),()))
  (m:=λa=>Int.toNat (a.1-a.2.1)) (R:=λr=>r.2.2.2.1=X++P++x::Rr)
  (λa hi=> ?_) _ ⟨[],P,rfl,by simp⟩ (YaD _)
 obtain⟨P1,P2,rfl,rfl⟩:=hi;simp only[Yd] at hm|-;have w0:IntKind.wrap .i64 (((X.length+(P1.length+P2.length)+1:Nat):Int)-1)=((X.length+P1.length+P2.length:Nat):Int):=by rw[wrap_i64 _ (by omega) (by omega)];omega
 cases P2 with
 |nil=>
  right;left;refine⟨(((X.length+(P1.length+([]:List Cell).length)+1:Nat):Int),((X.length+P1.length:Nat):Int),X++P1++x::([]++Rr),()),?_,by simp⟩;have d:decide (((X.length+P1.length:Nat):Int)<((X.length+P1.length+([]:List Cell).length:Nat):Int))=false:=by simp
  simp only[Zkg,RT.val,w0,d,Yb]
 |cons y P2=>
  left;have d:decide (((X.length+P1.length:Nat):Int)<((X.length+P1.length+(y::P2).length:Nat):Int))=true:=by simp;omega
  have w1:IntKind.wrap .i64 (((X.length+P1.length:Nat):Int)+1)=((X++P1).length:Int)+1+(([]:List Cell).length:Int):=by rw[wrap_i64 _ (by simp only[List.length_cons] at hm;omega) (by simp only[List.length_cons] at hm;omega)];simp
  have w2:((X.length+P1.length:Nat):Int)=((X++P1).length:Int):=by simp
  have e0:X++P1++x::(y::P2++Rr)=(X++P1)++x::([]++y::(P2++Rr)):=by simp
  have g1:R.get CR ((X++P1)++x::([]++y::(P2++Rr))) ((X++P1).length:Int)=x:=ZpK (r:=CR) _ _ _ _ rfl;have g2:=Zms (X++P1) x y [] (P2++Rr) _ rfl;have r1:=ZsF (X++P1) x ([]++y::(P2++Rr)) _ rfl;have r2:=ZlY (X++P1) x y [] (P2++Rr) _ rfl;have s1:=ZDR (X++P1) x y [] (P2++Rr) _ _ rfl rfl;refine⟨(((X.length+(P1.length+(y::P2).length)+1:Nat):Int),((X++P1).length:Int)+1+(([]:List Cell).length:Int),(X++P1)++y::([]++x::(P2++Rr)),()),?_,⟨P1++[y],P2,by simp,by simp;omega⟩,by simp;omega⟩;rw[e0];rw[w2] at w1 d|-;simp only[Zkg,RT.val,w0,d,w1,g1,g2,r1,r2,s1,Zpw,Ya,Yf,Yi,Yj,Yy]
theorem ZYq (X Q Rr:List Cell) (y:Cell) (hm:(X++(Q++y::Rr)).length<=most):
  ∃r,runF false Zke (λa=>Int.toNat (a.2.1-a.1)+1) ((X.length:Int),((X.length+Q.length:Nat):Int),X++(Q++y::Rr),())=some r/\r.2.2.2.1=X++y::(Q++Rr):=by
 have hms:=mst;simp only[Yd,List.length_cons] at hm;refine ZA (fl:=false) (t:=Zke) (fuel:=λa=>Int.toNat (a.2.1-a.1)+1)
  (I:=λa=>∃Q1 Q2:List Cell,Q=Q1++Q2/\a=((X.length:Int),((X.length+Q1.length:Nat):Int),X++Q1++y::(Q2++Rr),()))
  (m:=λa=>Int.toNat (a.2.1-a.1)) (R:=λr=>r.2.2.2.1=X++y::(Q++Rr))
  (λa hi=> ?_) _ ⟨Q,[],by simp,by simp⟩ (YaD _)
 obtain⟨Q1,Q2,rfl,rfl⟩:=hi;simp only[Yd] at hm;rcases Y8 Q1 with rfl|⟨Q',z,hc⟩
 ·right;left;refine⟨((X.length:Int),((X.length+([]:List Cell).length:Nat):Int),X++[]++y::(Q2++Rr),()),?_,by simp⟩;have d:decide (((X.length+([]:List Cell).length:Nat):Int)>(X.length:Int))=false:=by simp
  simp only[Zke,RT.val,d,Yb]
 ·rw[Y4] at hc;subst hc;left;have hl1:(Q'++[z]).length=Q'.length+1:=by simp
  have d:decide (((X.length+(Q'++[z]).length:Nat):Int)>(X.length:Int))=true:=by simp;omega
  have w1:IntKind.wrap .i64 (((X.length+(Q'++[z]).length:Nat):Int)-1)=((X++Q').length:Int):=by rw[wrap_i64 _ (by omega) (by omega)];simp;omega
  have w2:((X.length+(Q'++[z]).length:Nat):Int)=((X++Q').length:Int)+1+(([]:List Cell).length:Int):=by simp;omega
  have e0:X++(Q'++[z])++y::(Q2++Rr)=(X++Q')++z::([]++y::(Q2++Rr)):=by simp
  have g1:R.get CR ((X++Q')++z::([]++y::(Q2++Rr))) ((X++Q').length:Int)=z:=ZpK (r:=CR) _ _ _ _ rfl;have g2:=Zms (X++Q') z y [] (Q2++Rr) _ rfl;have r1:=ZsF (X++Q') z ([]++y::(Q2++Rr)) _ rfl;have r2:=ZlY (X++Q') z y [] (Q2++Rr) _ rfl;have s1:=Zwi (X++Q') z y [] (Q2++Rr) _ _ rfl rfl;refine⟨((X.length:Int),((X++Q').length:Int),(X++Q')++y::([]++z::(Q2++Rr)),()),?_,⟨Q',z::Q2,by simp,by simp⟩,by simp;omega⟩;rw[e0];rw[w2] at w1 d|-;simp only[Zke,RT.val,d,w1,g1,g2,r1,r2,s1,Zpw,Ya,Yf,Yi,Yj,Yy]
variable {P Q:List Cell}
theorem ZzU {x:Cell} (hs:Srt (P++Q)) (hP:∀y∈P,y.1<x.1) (hQ:∀y∈Q,x.1<=y.1):isort (x::(P++Q))=P++x::Q:=by
 have h:=Yaf.1 hs;refine ZhE (Yaf.2 ⟨h.1,YC.2 ⟨hQ,h.2.1⟩,λa ha b hb=> ?_⟩) ?_
 ·have:=hP a ha;rcases YD.1 hb with rfl|hb
  ·omega
  ·have:=hQ b hb;omega
 ·have:=Sm.swap (u:=P) (v:=[x]) (λa ha b hb=>by simp at hb;subst hb;have:=hP a ha;omega) [] Q;simpa using this
theorem Zwm (hs:Srt (P++Q)) (hP:∀a∈P,a.1<=y.1) (hQ:∀a∈Q,y.1<a.1):isort (P++Q++[y])=P++y::Q:=by
 have h:=Yaf.1 hs;refine ZhE (Yaf.2 ⟨h.1,YC.2 ⟨λb hb=>by have:=hQ b hb;omega,h.2.1⟩,λa ha b hb=> ?_⟩) ?_
 ·have:=hP a ha;rcases YD.1 hb with rfl|hb
  ·omega
  ·have:=hQ b hb;omega
 ·have:=(Sm.swap (u:=Q) (v:=[y]) (λa ha b hb=>by simp at hb;subst hb;have:=hQ a ha;omega) P []).symm;simpa using this
theorem ZaG {α:Type} (l:List α) (i:Nat) (h:i<l.length):Zf (i:Int) l.length=true:=ZT.2 (by omega)
theorem ZhO (i:Nat) (h:i<=4611686018427387904):IntKind.wrap .i64 ((i:Int)+1)=((i+1:Nat):Int):=by rw[wrap_i64 _ (by omega) (by omega)];simp
theorem wsub (i j:Nat) (h:i<=4611686018427387904) (hj:j<=i):IntKind.wrap .i64 ((i:Int)-(j:Int))=((i-j:Nat):Int):=by rw[wrap_i64 _ (by omega) (by omega)];omega
theorem wadd (i j:Nat) (h:i+j<=4611686018427387904):IntKind.wrap .i64 ((i:Int)+(j:Int))=((i+j:Nat):Int):=by rw[wrap_i64 _ (by omega) (by omega)];simp
theorem ZVu (k:Int) (X V Y:List Cell) (x:Cell) (hV:0<V.length) (sV:Srt V) (hm:(X++[x]++V++Y).length<=most):
  (Zsa k (X++[x]++V++Y) X.length (X.length+1:Nat) (X.length+1+V.length:Nat)).val=some (X++isort ([x]++V)++Y):=by
 have hms:=mst;have hlen:(X++[x]++V++Y).length=X.length+1+V.length+Y.length:=by simp;omega
 have hm':=hm;rw[hlen] at hm';have ga:el (X++[x]++V++Y) X.length=x:=by simp[el]
 have gv:∀i,i<V.length->el (X++[x]++V++Y) (X.length+1+i)=el V i:=λi hi=>by have:=ZGv (X++[x]) V Y i hi;simpa using this
 obtain⟨i,i1,i2,hrun,q1,q2⟩:=ZP9 (T:=Zkh) (fuel:=λa_1=>Int.toNat (a_1.2.2.1-a_1.2.1)+1) (λi j=>((X.length:Int),(i:Int),(j:Int),X++[x]++V++Y,()))
  (λh=>decide ((el (X++[x]++V++Y) h).1<x.1)) (X.length+1) (X.length+1+V.length) (by omega) (by simp only;omega)
  (λi j h1 h2 h3=>by
   have d:decide ((i:Int)<(j:Int))=true:=by simpa using h2
   have r1:=ZaG (X++[x]++V++Y) ((i+j)/2) (by rw[hlen];omega);have r2:=ZaG (X++[x]++V++Y) X.length (by rw[hlen];omega);simp only[Zkh,RT.val,d,ZpI i j (by omega),r1,r2,Yf,Yj,Ya,ZcB,ZlT,ga,ZhO ((i+j)/2) (by omega)]
   cases decide ((el (X++[x]++V++Y) ((i+j)/2)).1<x.1)<;>rfl)
  (λi h1 h2=>by
   have d:decide ((i:Int)<(i:Int))=false:=by simp
   simp only[Zkh,RT.val,d,Yb])
 obtain⟨p,rfl⟩:∃p,i=X.length+1+p:=⟨i-(X.length+1),by omega⟩;have hp:p<=V.length:=by omega
 have hP:∀y∈V.take p,y.1<x.1:=λy hy=>by
  obtain⟨j,h1,h2,rfl⟩:=Zmp hy;rcases q1 with q1|q1
  ·omega
  ·rw[show X.length+1+p-1=X.length+1+(p-1) by omega,gv (p-1) (by omega)] at q1;have:=Zlk sV (i:=j) (j:=p-1) (by omega) (by omega);simp only[Yk] at q1;omega
 have hQ:∀y∈V.drop p,x.1<=y.1:=λy hy=>by
  obtain⟨j,h1,h2,rfl⟩:=Zjy hy;rcases q2 with q2|q2
  ·omega
  ·rw[gv p (by omega)] at q2;have:=Zlk sV (i:=p) (j:=j) h1 h2;simp only[Y9] at q2;omega
 have hV2:V.take p++V.drop p=V:=Yar p V;have hpl:(V.take p).length=p:=by simp;omega
 obtain⟨r,hr,hr2⟩:=ZYp X (V.take p) (V.drop p++Y) x (by
  have:X++x::(V.take p++(V.drop p++Y))=X++[x]++V++Y:=by rw[<-List.append_assoc (V.take p),hV2];simp
  rw[this];exact hm)
 rw[hpl,show X.length+p+1=X.length+1+p by omega,show X++x::(V.take p++(V.drop p++Y))=X++[x]++V++Y by rw[<-List.append_assoc (V.take p),hV2];simp] at hr;have w1:(IntKind.wrap .i64 (((X.length+1:Nat):Int)-(X.length:Int))==1)=true:=by rw[wsub _ _ (by omega) (by omega)];simp
 have hfin:X++V.take p++x::(V.drop p++Y)=X++isort ([x]++V)++Y:=by have:=ZzU (x:=x) (P:=V.take p) (Q:=V.drop p) (by rw[hV2];exact sV) hP hQ;rw[hV2] at this;rw[show [x]++V=x::V from rfl,this];simp
 have hrun':runF false Zkh (λa_1=>Int.toNat (a_1.2.2.1-a_1.2.1)+1) ((X.length:Int),((X.length+1:Nat):Int),((X.length+1+V.length:Nat):Int),X++[x]++V++Y,())=some (false,((X.length:Int),((X.length+1+p:Nat):Int),((X.length+1+p:Nat):Int),X++[x]++V++Y,())):=hrun;simp only[Zsa,ZdJ,RT.val,w1,Yf,Yj,hrun',okB,getO,Ya,hr,hr2,hfin]
theorem ZQT (k:Int) (X U Y:List Cell) (y:Cell) (hU:1<U.length) (sU:Srt U) (hm:(X++U++[y]++Y).length<=most):
  (Zsa k (X++U++[y]++Y) X.length (X.length+U.length:Nat) (X.length+U.length+1:Nat)).val=some (X++isort (U++[y])++Y):=by
 have hms:=mst;have hlen:(X++U++[y]++Y).length=X.length+U.length+1+Y.length:=by simp;omega
 have hm':=hm;rw[hlen] at hm';have ga:el (X++U++[y]++Y) (X.length+U.length)=y:=by simp[el]
 have gv:∀i,i<U.length->el (X++U++[y]++Y) (X.length+i)=el U i:=λi hi=>by have:=ZGv X U ([y]++Y) i hi;simpa using this
 obtain⟨i,i1,i2,hrun,q1,q2⟩:=ZP9 (T:=Zkf) (fuel:=λa_1=>Int.toNat (a_1.2.2.1-a_1.2.1)+1) (λi j=>(((X.length+U.length:Nat):Int),(i:Int),(j:Int),X++U++[y]++Y,()))
  (λh=>decide ((el (X++U++[y]++Y) h).1<=y.1)) X.length (X.length+U.length) (by omega) (by simp only;omega)
  (λi j h1 h2 h3=>by
   have d:decide ((i:Int)<(j:Int))=true:=by simpa using h2
   have r1:=ZaG (X++U++[y]++Y) ((i+j)/2) (by rw[hlen];omega);have r2:=ZaG (X++U++[y]++Y) (X.length+U.length) (by rw[hlen];omega);simp only[Zkf,RT.val,d,ZpI i j (by omega),r1,r2,Yf,Yj,Yi,Ya,ZcB,Zv8,ga,ZhO ((i+j)/2) (by omega)]
   cases decide ((el (X++U++[y]++Y) ((i+j)/2)).1<=y.1)<;>rfl)
  (λi h1 h2=>by
   have d:decide ((i:Int)<(i:Int))=false:=by simp
   simp only[Zkf,RT.val,d,Yb])
 obtain⟨p,rfl⟩:∃p,i=X.length+p:=⟨i-X.length,by omega⟩;have hp:p<=U.length:=by omega
 have hP:∀a∈U.take p,a.1<=y.1:=λa ha=>by
  obtain⟨j,h1,h2,rfl⟩:=Zmp ha;rcases q1 with q1|q1
  ·omega
  ·rw[show X.length+p-1=X.length+(p-1) by omega,gv (p-1) (by omega)] at q1;have:=Zlk sU (i:=j) (j:=p-1) (by omega) (by omega);simp only[Yk] at q1;omega
 have hQ:∀a∈U.drop p,y.1<a.1:=λa ha=>by
  obtain⟨j,h1,h2,rfl⟩:=Zjy ha;rcases q2 with q2|q2
  ·omega
  ·rw[gv p (by omega)] at q2;have:=Zlk sU (i:=p) (j:=j) h1 h2;simp only[Y9] at q2;omega
 have hU2:U.take p++U.drop p=U:=Yar p U;have hql:(U.drop p).length=U.length-p:=by simp
 have hpl:(X++U.take p).length=X.length+p:=by simp;omega
 have e0:(X++U.take p)++(U.drop p++y::Y)=X++U++[y]++Y:=by
  have:(X++U.take p)++(U.drop p++y::Y)=X++((U.take p++U.drop p)++y::Y):=by simp only[Yn]
  rw[this,hU2];simp
 obtain⟨r,hr,hr2⟩:=ZYq (X++U.take p) (U.drop p) Y y (by rw[e0];exact hm);rw[e0,hpl,hql,show X.length+p+(U.length-p)=X.length+U.length by omega] at hr;have w0:(IntKind.wrap .i64 (((X.length+U.length:Nat):Int)-(X.length:Int))==1)=false:=by rw[wsub _ _ (by omega) (by omega)];simp;omega
 have w1:(IntKind.wrap .i64 (((X.length+U.length+1:Nat):Int)-((X.length+U.length:Nat):Int))==1)=true:=by rw[wsub _ _ (by omega) (by omega)];simp
 have hfin:X++U.take p++y::(U.drop p++Y)=X++isort (U++[y])++Y:=by have:=Zwm (y:=y) (P:=U.take p) (Q:=U.drop p) (by rw[hU2];exact sU) hP hQ;rw[hU2] at this;rw[this];simp
 have hrun':runF false Zkf (λa_1=>Int.toNat (a_1.2.2.1-a_1.2.1)+1) (((X.length+U.length:Nat):Int),(X.length:Int),((X.length+U.length:Nat):Int),X++U++[y]++Y,())=some (false,(((X.length+U.length:Nat):Int),((X.length+p:Nat):Int),((X.length+p:Nat):Int),X++U++[y]++Y,())):=hrun;simp only[Zsa,ZdJ,RT.val,w0,w1,Yf,Yl,Yv,Yj,hrun',okB,getO,Ya,Yb,hr,hr2,hfin]
theorem Zey (l:List Cell):(isort l).length=l.length:=by
 have hi:∀(x:Cell) (l:List Cell),(ins x l).length=l.length+1:=λx l=>by
  induction l with
  |nil=>rfl
  |cons y l ih=>simp only[ins];split<;>simp[ih]
 have:∀(l acc:List Cell),(l.foldl (λa x=>ins x a) acc).length=acc.length+l.length:=by
  intro l
  induction l with
  |nil=>intro acc;simp
  |cons a l ih=>intro acc;rw[List.foldl_cons,ih,hi];simp;omega
 simp[isort,this]
theorem sub3 (X U V Y:List Cell):((X++U++V++Y).drop X.length).take ((X.length+U.length)-X.length)=U/\((X++U++V++Y).drop (X.length+U.length)).take ((X.length+U.length+V.length)-(X.length+U.length))=V:=by
 constructor
 ·have:X++U++V++Y=X++(U++(V++Y)):=by simp
  rw[this,Yae rfl,Yao (by omega)]
 ·have:X++U++V++Y=(X++U)++(V++Y):=by simp
  rw[this,Yae (by simp),Yao (by omega)]
theorem ZD7 (X U V Y:List Cell) (hU:0<U.length) (hV:0<V.length) (hm:(X++U++V++Y).length<=most):ZiY (X++U++V++Y) X.length (X.length+U.length:Nat) (X.length+U.length+V.length:Nat)=true:=by simp only[ZiY,Yc,Yk,YG];simp only[Yd] at hm|-;omega
theorem ZDQ (k:Int) (X U V Y:List Cell) (hU:0<U.length) (hV:0<V.length) (sU:Srt U) (sV:Srt V) (hk:((U.length+V.length:Nat):Int)<=k) (hm:(X++U++V++Y).length<=most):ZiP k (X++U++V++Y) X.length (X.length+U.length:Nat) (X.length+U.length+V.length:Nat)=true:=by obtain⟨s1,s2⟩:=sub3 X U V Y;simp only[ZiP,ZD7 X U V Y hU hV hm,Int.toNat_natCast,s1,s2,ZfI.2 sU,ZfI.2 sV,YY,YT,Yk];omega
theorem Zm4 (X L Y:List Cell) (b:Nat) (hb:b=X.length+L.length):ZdX (X++L++Y) X.length b=X++isort L++Y:=by subst hb;exact Zso X L Y
theorem ZVw (k:Int) (X U V Y:List Cell) (hU:1<U.length) (hV:1<V.length) (sU:Srt U) (sV:Srt V) (hk:((U.length+V.length:Nat):Int)<=k+1) (hm:(X++U++V++Y).length<=most):
  (Zsa k (X++U++V++Y) X.length (X.length+U.length:Nat) (X.length+U.length+V.length:Nat)).val=some (X++isort (U++V)++Y):=by
 have hms:=mst;have hlen:(X++U++V++Y).length=X.length+U.length+V.length+Y.length:=by simp;omega
 have hm':=hm;rw[hlen] at hm';have gu:∀i,i<U.length->el (X++U++V++Y) (X.length+i)=el U i:=λi hi=>by have:=ZGv X U (V++Y) i hi;simpa using this
 have gv:∀i,i<V.length->el (X++U++V++Y) (X.length+U.length+i)=el V i:=λi hi=>by have:=ZGv (X++U) V Y i hi;simpa using this
 obtain⟨M,hM⟩:∃M,M=(X.length+(X.length+U.length+V.length))/2:=⟨_,rfl⟩;obtain⟨lo,hi,hlo,hlh,hb1,hb2,hb3,hb4,hb5⟩:∃lo hi:Nat,lo<=hi/\
   ((bif decide (((X.length+U.length:Nat):Int)>(M:Int)) then IntKind.wrap .i64 (((M+(X.length+U.length):Nat):Int)-((X.length+U.length+V.length:Nat):Int)) else (X.length:Int))=(lo:Int)/\(bif decide (((X.length+U.length:Nat):Int)>(M:Int)) then (M:Int) else ((X.length+U.length:Nat):Int))=(hi:Int))/\
   X.length<=lo/\hi<=X.length+U.length/\(∀c,lo<=c->c<hi->X.length+U.length<=M+(X.length+U.length)-1-c/\M+(X.length+U.length)-1-c<X.length+U.length+V.length)/\
   ((lo=X.length\/M+(X.length+U.length)-lo=X.length+U.length+V.length)/\(hi=X.length+U.length\/hi=M))/\M+(X.length+U.length)<=lo+(X.length+U.length+V.length):=by
  by_cases hc:M<X.length+U.length
  ·refine⟨M+(X.length+U.length)-(X.length+U.length+V.length),M,by omega,⟨?_,?_⟩,by omega,by omega,λc h1 h2=>by omega,⟨by omega,.inr rfl⟩,by omega⟩
   ·have:decide (((X.length+U.length:Nat):Int)>(M:Int))=true:=by simp;omega
    rw[this,Ya,wsub _ _ (by omega) (by omega)]
   ·have:decide (((X.length+U.length:Nat):Int)>(M:Int))=true:=by simp;omega
    rw[this,Ya]
  ·refine⟨X.length,X.length+U.length,by omega,⟨?_,?_⟩,by omega,by omega,λc h1 h2=>by omega,⟨.inl rfl,.inl rfl⟩,by omega⟩
   ·have:decide (((X.length+U.length:Nat):Int)>(M:Int))=false:=by simp;omega
    rw[this,Yb]
   ·have:decide (((X.length+U.length:Nat):Int)>(M:Int))=false:=by simp;omega
    rw[this,Yb]
 obtain⟨σ,i1,i2,hrun,q1,q2⟩:=ZP9 (T:=Zkd) (fuel:=λa_1=>Int.toNat (a_1.2.2.2.2.2.2.1-a_1.2.2.2.2.2.1)+1)
  (λi j=>((X.length:Int),((X.length+U.length:Nat):Int),((X.length+U.length+V.length:Nat):Int),(M:Int),((M+(X.length+U.length):Nat):Int),(i:Int),(j:Int),((M+(X.length+U.length)-1:Nat):Int),X++U++V++Y,()))
  (λh=>decide ((el (X++U++V++Y) h).1<=(el (X++U++V++Y) (M+(X.length+U.length)-1-h)).1)) lo hi hlo (by simp only;omega)
  (λi j h1 h2 h3=>by
   have d:decide ((i:Int)<(j:Int))=true:=by simpa using h2
   obtain⟨b1,b2⟩:=hb3 ((i+j)/2) (by omega) (by omega);have r1:=ZaG (X++U++V++Y) ((i+j)/2) (by rw[hlen];omega);have r2:=ZaG (X++U++V++Y) (M+(X.length+U.length)-1-(i+j)/2) (by rw[hlen];omega);simp only[Zkd,RT.val,d,ZpI i j (by omega),wsub (M+(X.length+U.length)-1) ((i+j)/2) (by omega) (by omega),r1,r2,Yf,Yj,Ya,ZcB,Zv8,ZhO ((i+j)/2) (by omega)]
   cases decide ((el (X++U++V++Y) ((i+j)/2)).1<=(el (X++U++V++Y) (M+(X.length+U.length)-1-(i+j)/2)).1)<;>rfl)
  (λi h1 h2=>by
   have d:decide ((i:Int)<(i:Int))=false:=by simp
   simp only[Zkd,RT.val,d,Yb])
 obtain⟨n1,hn1⟩:∃n1,σ=X.length+n1:=⟨σ-X.length,by omega⟩;subst hn1;have hn1:n1<=U.length:=by omega
 have hbound:∀c,lo<=c->c<hi->True:=λ_ _ _=>trivial
 have hσM:X.length+n1<=M:=by
  rcases hb4.2 with e|e
  ·by_cases hc:M<X.length+U.length
   ·have:=hb3 lo;rcases Yab lo hi with h|h
    ·have:=hb3 (hi-1) (by omega) (by omega);omega
    ·omega
   ·omega
  ·omega
 obtain⟨u1,u2,hu,hu1⟩:=Zcb U n1 hn1;have hv1le:M-(X.length+n1)<=V.length:=by omega
 obtain⟨v1,v2,hv,hv1⟩:=Zcb V (M-(X.length+n1)) hv1le;subst hu hv;simp only[Yd] at*;have su:=Yaf.1 sU;have sv:=Yaf.1 sV;have eu:∀i,i<u1.length+u2.length->el (X++(u1++u2)++(v1++v2)++Y) (X.length+i)=el (u1++u2) i:=λi hi=>gu i (by omega)
 have ev:∀i,i<v1.length+v2.length->el (X++(u1++u2)++(v1++v2)++Y) (X.length+(u1.length+u2.length)+i)=el (v1++v2) i:=λi hi=>gv i (by omega)
 have mu1:∀x∈u1,∃i,i<u1.length/\x=el (u1++u2) i:=λx hx=>by obtain⟨i,h1,h2,e⟩:=Zmp (V:=u1++u2) (p:=u1.length) (y:=x) (by simpa using hx);exact⟨i,h1,e⟩
 have mu2:∀x∈u2,∃i,u1.length<=i/\i<u1.length+u2.length/\x=el (u1++u2) i:=λx hx=>by obtain⟨i,h1,h2,e⟩:=Zjy (V:=u1++u2) (p:=u1.length) (y:=x) (by simpa using hx);exact⟨i,h1,by simpa using h2,e⟩
 have mv1:∀x∈v1,∃i,i<v1.length/\x=el (v1++v2) i:=λx hx=>by obtain⟨i,h1,h2,e⟩:=Zmp (V:=v1++v2) (p:=v1.length) (y:=x) (by simpa using hx);exact⟨i,h1,e⟩
 have mv2:∀x∈v2,∃i,v1.length<=i/\i<v1.length+v2.length/\x=el (v1++v2) i:=λx hx=>by obtain⟨i,h1,h2,e⟩:=Zjy (V:=v1++v2) (p:=v1.length) (y:=x) (by simpa using hx);exact⟨i,h1,by simpa using h2,e⟩
 have h12:∀x∈u2,∀y∈v1,y.1<x.1:=λx hx y hy=>by
  obtain⟨i,a1,a2,rfl⟩:=mu2 x hx;obtain⟨j,b1,rfl⟩:=mv1 y hy;rcases q2 with e|e
  ·exfalso;rcases hb4.2 with f|f<;>omega
  ·have hidx:M+(X.length+(u1.length+u2.length))-1-(X.length+n1)=X.length+(u1.length+u2.length)+(v1.length-1):=by omega
   rw[eu n1 (by omega),hidx,ev (v1.length-1) (by omega)] at e;have c1:=Zlk sU (i:=n1) (j:=i) (by omega) (by simp;omega);have c2:=Zlk sV (i:=j) (j:=v1.length-1) (by omega) (by simp;omega);simp only[Y9] at e;omega
 have h1:∀x∈u1,∀y∈v2,x.1<=y.1:=λx hx y hy=>by
  obtain⟨i,a1,rfl⟩:=mu1 x hx;obtain⟨j,b1,b2,rfl⟩:=mv2 y hy;rcases q1 with e|e
  ·exfalso;rcases hb4.1 with f|f<;>omega
  ·have hidx:M+(X.length+(u1.length+u2.length))-1-(X.length+n1-1)=X.length+(u1.length+u2.length)+v1.length:=by omega
   rw[hidx,show X.length+n1-1=X.length+(n1-1) by omega,eu (n1-1) (by omega),ev v1.length (by omega)] at e;have c1:=Zlk sU (i:=i) (j:=n1-1) (by omega) (by simp;omega);have c2:=Zlk sV (i:=v1.length) (j:=j) (by omega) (by simp;omega);simp only[Yk] at e;omega
 have hlaw:=ZVv h12 h1 su.2.2 sv.2.2;have hMv:M=X.length+u1.length+v1.length:=by omega
 have w0:(IntKind.wrap .i64 (((X.length+(u1.length+u2.length):Nat):Int)-(X.length:Int))==1)=false:=by rw[wsub _ _ (by omega) (by omega)];simp;omega
 have w1:(IntKind.wrap .i64 (((X.length+(u1.length+u2.length)+(v1.length+v2.length):Nat):Int)-((X.length+(u1.length+u2.length):Nat):Int))==1)=false:=by rw[wsub _ _ (by omega) (by omega)];simp;omega
 have w2:IntKind.wrap .i64 (shrI .u64 (IntKind.wrap .u64 (IntKind.wrap .i64 ((X.length:Int)+((X.length+(u1.length+u2.length)+(v1.length+v2.length):Nat):Int)))) 1)=(M:Int):=by rw[ZpI _ _ (by omega),hM]
 have w3:IntKind.wrap .i64 ((M:Int)+((X.length+(u1.length+u2.length):Nat):Int))=((M+(X.length+(u1.length+u2.length)):Nat):Int):=wadd _ _ (by omega);have w4:IntKind.wrap .i64 (((M+(X.length+(u1.length+u2.length)):Nat):Int)-1)=((M+(X.length+(u1.length+u2.length))-1:Nat):Int):=by have:=wsub (M+(X.length+(u1.length+u2.length))) 1 (by omega) (by omega);simpa using this
 have w5:IntKind.wrap .i64 (((M+(X.length+(u1.length+u2.length)):Nat):Int)-((X.length+n1:Nat):Int))=((X.length+(u1.length+u2.length)+v1.length:Nat):Int):=by rw[wsub _ _ (by omega) (by omega)];omega
 have e0:X++(u1++u2)++(v1++v2)++Y=(X++u1)++u2++v1++(v2++Y):=by simp
 have hrot:(decide (((X.length+n1:Nat):Int)<((X.length+(u1.length+u2.length):Nat):Int))&&decide (((X.length+(u1.length+u2.length):Nat):Int)<((X.length+(u1.length+u2.length)+v1.length:Nat):Int)))=true->
   ZiY (X++(u1++u2)++(v1++v2)++Y) ((X.length+n1:Nat):Int) ((X.length+(u1.length+u2.length):Nat):Int) ((X.length+(u1.length+u2.length)+v1.length:Nat):Int)=true:=λh=>by simp only[Yc,Yk] at h;have:=ZD7 (X++u1) u2 v1 (v2++Y) (by omega) (by omega) (by rw[<-e0];simp only[Yd];omega);rw[e0];simp only[Yd] at this;rwa [show X.length+u1.length+u2.length=X.length+(u1.length+u2.length) by omega,show X.length+u1.length=X.length+n1 by omega] at this
 have hrotX:(bif (decide (((X.length+n1:Nat):Int)<((X.length+(u1.length+u2.length):Nat):Int))&&decide (((X.length+(u1.length+u2.length):Nat):Int)<((X.length+(u1.length+u2.length)+v1.length:Nat):Int))) then rotX (X++(u1++u2)++(v1++v2)++Y) (X.length+n1) (X.length+(u1.length+u2.length)) (X.length+(u1.length+u2.length)+v1.length) else X++(u1++u2)++(v1++v2)++Y)=X++u1++v1++(u2++v2++Y):=by
  by_cases h:0<u2.length/\0<v1.length
  ·have:(decide (((X.length+n1:Nat):Int)<((X.length+(u1.length+u2.length):Nat):Int))&&decide (((X.length+(u1.length+u2.length):Nat):Int)<((X.length+(u1.length+u2.length)+v1.length:Nat):Int)))=true:=by simp only[Yc,Yk];omega
   rw[this,Ya,e0];have:=ZKV (X++u1) u2 v1 (v2++Y);simp only[Yd] at this;rw[show X.length+u1.length+u2.length=X.length+(u1.length+u2.length) by omega,show X.length+u1.length=X.length+n1 by omega] at this;rw[this];simp
  ·have:(decide (((X.length+n1:Nat):Int)<((X.length+(u1.length+u2.length):Nat):Int))&&decide (((X.length+(u1.length+u2.length):Nat):Int)<((X.length+(u1.length+u2.length)+v1.length:Nat):Int)))=false:=by rw[YJ];simp only[ne_eq,Yc,Yk];omega
   rw[this,Yb];rcases YaS u2.length with h2|h2
   ·rw[YX.1 h2];simp
   ·rw[YX.1 (show v1.length=0 by omega)];simp
 have hl2:(X++u1++v1++(u2++v2++Y)).length<=most:=by simp only[Yd];omega
 have hs1:(decide ((X.length:Int)<((X.length+n1:Nat):Int))&&decide (((X.length+n1:Nat):Int)<(M:Int)))=true->ZiP k (X++u1++v1++(u2++v2++Y)) (X.length:Int) ((X.length+n1:Nat):Int) (M:Int)=true:=λh=>by simp only[Yc,Yk] at h;have:=ZDQ k X u1 v1 (u2++v2++Y) (by omega) (by omega) su.1 sv.1 (by omega) hl2;rwa [<-hMv,show X.length+u1.length=X.length+n1 by omega] at this
 have hsX1:(bif (decide ((X.length:Int)<((X.length+n1:Nat):Int))&&decide (((X.length+n1:Nat):Int)<(M:Int))) then ZdX (X++u1++v1++(u2++v2++Y)) X.length M else X++u1++v1++(u2++v2++Y))=X++isort (u1++v1)++(u2++v2++Y):=by
  by_cases h:0<u1.length/\0<v1.length
  ·have:(decide ((X.length:Int)<((X.length+n1:Nat):Int))&&decide (((X.length+n1:Nat):Int)<(M:Int)))=true:=by simp only[Yc,Yk];omega
   rw[this,Ya,Yn X u1 v1];exact Zm4 X (u1++v1) (u2++v2++Y) M (by simp;omega)
  ·have:(decide ((X.length:Int)<((X.length+n1:Nat):Int))&&decide (((X.length+n1:Nat):Int)<(M:Int)))=false:=by rw[YJ];simp only[ne_eq,Yc,Yk];omega
   rw[this,Yb]
   have:isort (u1++v1)=u1++v1:=ZrF (by
    rcases YaS u1.length with h2|h2
    ·rw[YX.1 h2,List.nil_append];exact sv.1
    ·rw[YX.1 (show v1.length=0 by omega),Yt];exact su.1)
   rw[this];simp
 have e3:X++isort (u1++v1)++(u2++v2++Y)=(X++isort (u1++v1))++u2++v2++Y:=by simp
 have hl3:(X++isort (u1++v1)).length=M:=by rw[Yd,Zey];simp;omega
 have hs2:(decide ((M:Int)<((X.length+(u1.length+u2.length)+v1.length:Nat):Int))&&decide (((X.length+(u1.length+u2.length)+v1.length:Nat):Int)<((X.length+(u1.length+u2.length)+(v1.length+v2.length):Nat):Int)))=true->ZiP k (X++isort (u1++v1)++(u2++v2++Y)) (M:Int) ((X.length+(u1.length+u2.length)+v1.length:Nat):Int) ((X.length+(u1.length+u2.length)+(v1.length+v2.length):Nat):Int)=true:=λh=>by simp only[Yc,Yk] at h;have:=ZDQ k (X++isort (u1++v1)) u2 v2 Y (by omega) (by omega) su.2.1 sv.2.1 (by omega) (by rw[<-e3];simp only[Yd,Zey];omega);rw[e3];rw[hl3] at this;rwa [show M+u2.length=X.length+(u1.length+u2.length)+v1.length by omega,show X.length+(u1.length+u2.length)+v1.length+v2.length=X.length+(u1.length+u2.length)+(v1.length+v2.length) by omega] at this
 have hsX2:(bif (decide ((M:Int)<((X.length+(u1.length+u2.length)+v1.length:Nat):Int))&&decide (((X.length+(u1.length+u2.length)+v1.length:Nat):Int)<((X.length+(u1.length+u2.length)+(v1.length+v2.length):Nat):Int))) then ZdX (X++isort (u1++v1)++(u2++v2++Y)) M (X.length+(u1.length+u2.length)+(v1.length+v2.length)) else X++isort (u1++v1)++(u2++v2++Y))=X++isort (u1++u2++(v1++v2))++Y:=by
  have hfin:isort (u1++u2++(v1++v2))=isort (u1++v1)++isort (u2++v2):=by rw[<-hlaw];simp
  rw[hfin];by_cases h:0<u2.length/\0<v2.length
  ·have:(decide ((M:Int)<((X.length+(u1.length+u2.length)+v1.length:Nat):Int))&&decide (((X.length+(u1.length+u2.length)+v1.length:Nat):Int)<((X.length+(u1.length+u2.length)+(v1.length+v2.length):Nat):Int)))=true:=by simp only[Yc,Yk];omega
   rw[this,Ya,e3,Yn (X++isort (u1++v1)) u2 v2];have:=Zm4 (X++isort (u1++v1)) (u2++v2) Y (X.length+(u1.length+u2.length)+(v1.length+v2.length)) (by rw[hl3];simp;omega);rw[hl3] at this;rw[this];simp
  ·have:(decide ((M:Int)<((X.length+(u1.length+u2.length)+v1.length:Nat):Int))&&decide (((X.length+(u1.length+u2.length)+v1.length:Nat):Int)<((X.length+(u1.length+u2.length)+(v1.length+v2.length):Nat):Int)))=false:=by rw[YJ];simp only[ne_eq,Yc,Yk];omega
   rw[this,Yb]
   have:isort (u2++v2)=u2++v2:=ZrF (by
    rcases YaS u2.length with h2|h2
    ·rw[YX.1 h2,List.nil_append];exact sv.2.1
    ·rw[YX.1 (show v2.length=0 by omega),Yt];exact su.2.1)
   rw[this];simp
 have imp:∀{p q:Bool},(p=true->q=true)->(!p||q)=true:=fun {p q} h=>by
  cases p with
  |false=>rfl
  |true=>rw[h rfl];rfl
 have hst:runF false Zkd (λa_1=>Int.toNat (a_1.2.2.2.2.2.2.1-a_1.2.2.2.2.2.1)+1) ((X.length:Int),((X.length+(u1.length+u2.length):Nat):Int),((X.length+(u1.length+u2.length)+(v1.length+v2.length):Nat):Int),(M:Int),((M+(X.length+(u1.length+u2.length)):Nat):Int),(lo:Int),(hi:Int),((M+(X.length+(u1.length+u2.length))-1:Nat):Int),X++(u1++u2)++(v1++v2)++Y,())=some (false,((X.length:Int),((X.length+(u1.length+u2.length):Nat):Int),((X.length+(u1.length+u2.length)+(v1.length+v2.length):Nat):Int),(M:Int),((M+(X.length+(u1.length+u2.length)):Nat):Int),((X.length+n1:Nat):Int),((X.length+n1:Nat):Int),((M+(X.length+(u1.length+u2.length))-1:Nat):Int),X++(u1++u2)++(v1++v2)++Y,())):=hrun;simp only[Zsa,ZdJ,RT.val,w0,w1,w2,w3,w4,Yl,Yv,Ya,Yb,hlh.1,hlh.2,hst,okB,getO,w5,imp hrot,Int.toNat_natCast,hrotX,imp hs1,hsX1,imp hs2,hsX2]
theorem ZVt (k:Int) (X U V Y:List Cell) (hU:0<U.length) (hV:0<V.length) (sU:Srt U) (sV:Srt V) (hk:((U.length+V.length:Nat):Int)<=k+1) (hm:(X++U++V++Y).length<=most):
  (Zsa k (X++U++V++Y) X.length (X.length+U.length:Nat) (X.length+U.length+V.length:Nat)).val=some (X++isort (U++V)++Y):=by
 by_cases h1:U.length=1
 ·obtain⟨x,rfl⟩:=List.length_eq_one_iff.1 h1;exact ZVu k X V Y x hV sV hm
 ·by_cases h2:V.length=1
  ·obtain⟨y,rfl⟩:=List.length_eq_one_iff.1 h2;exact ZQT k X U Y y (by omega) sU hm
  ·exact ZVw k X U V Y (by omega) (by omega) sU sV hk hm
theorem ZDP:∀n:Nat,Zb Tryz.prog 305 (ZVx (n:Int))
 |0=>Zb.st_never Tryz.call305 λa=>by
  obtain⟨l,a,m,b⟩:=a;have:ZiP ((0:Nat):Int) l a m b=false:=by
   cases h:ZiP ((0:Nat):Int) l a m b with
   |false=>rfl
   |true=>
    exfalso;simp only[ZiP,ZiY,Yc,Yk,YG] at h;obtain⟨⟨⟨⟨⟨⟨⟨p1,p2⟩,p3⟩,p4⟩,p5⟩,p6⟩,p7⟩,p8⟩:=h;omega
  simp only[this]
 |n+1=>ZQD (n:Int) (ZDP n) λa h1 h2 hp=>by
  obtain⟨l,a,m,b⟩:=a;have hp:ZiP ((n+1:Nat):Int) l a m b=true:=by cases h:ZiP ((n+1:Nat):Int) l a m b<;>simp_all
  simp only[ZiP,ZiY,Yc,Yk,YG] at hp;obtain⟨⟨⟨⟨⟨⟨⟨p1,p2⟩,p3⟩,p4⟩,p5⟩,p6⟩,p7⟩,p8⟩:=hp;obtain⟨a,rfl⟩:=Y5 p1;obtain⟨m,rfl⟩:=Y5 (show (0:Int)<=m by omega);obtain⟨b,rfl⟩:=Y5 (show (0:Int)<=b by omega);obtain⟨X,U,V,Y,rfl,rfl,rfl,rfl⟩:=ZT5 l a m b (by omega) (by omega) (by omega);obtain⟨s1,s2⟩:=sub3 X U V Y;simp only[Int.toNat_natCast,s1,s2] at p7 p8;have:=ZVt (n:Int) X U V Y (by omega) (by omega) (ZfI.1 p7) (ZfI.1 p8) (by omega) p5;simp only[Int.toNat_natCast];rw[this,Yn X U V,Zm4 X (U++V) Y _ (by simp;omega)]
def Zgw (l:List Cell) (a m b:Int):Bool:=ZiY l a m b&&srtB ((l.drop a.toNat).take (m.toNat-a.toNat))&&srtB ((l.drop m.toNat).take (b.toNat-m.toNat))
def Zqz:En:=stE ZcR Zsc 160 ZzG (λa=>some (Zgw a.1 a.2.1 a.2.2.1 a.2.2.2)) (λa=>ZdX a.1 a.2.1.toNat a.2.2.2.toNat)
theorem ZlR:Zb Tryz.prog 305 Zqz:=Zgz (ZDP most) λa h1 h2 hp=>⟨by
 obtain⟨l,a,m,b⟩:=a;have hp:Zgw l a m b=true:=by cases h:Zgw l a m b<;>simp_all
 simp only[Zgw,Yc] at hp;have hk:decide (b-a<=((most:Nat):Int))=true:=by
  have:=hp.1.1;simp only[ZiY,Yc,Yk,YG] at this;obtain⟨⟨⟨⟨p1,p2⟩,p3⟩,p4⟩,p5⟩:=this;refine Yq ?_;have key:∀(a b:Int) (n:Nat),0<=a->b<=(n:Int)->n<=most->b-a<=((most:Nat):Int):=by intros;omega
  exact key a b _ p1 p4 p5
 simp only[ZiP,hp.1.1,hp.1.2,hp.2,hk,Y0];simp,rfl⟩
abbrev ZzI:List Sh:=[So Kc]
def ZQJ:LS:={n:=63,Sl:=[(0,.tip 0),(1,.code (So Kc)),(2,.fix (A.clo 160 [])),(6,.code (So Kc)),(7,.code (So Kc)),(8,.code (So Kc))],Bx:=[],Sg:=[⟨R.Pq Kb Ka,75,false⟩],keep:=[0]}
def Zhi (a:QT8):RT (Option (Go1 (QT8))):=
 .br (decide (a.2.2.2.1<=a.1)) (.br (ZgH a.2.2.2.2.1 a.2.2.1 a.2.2.2.1) (Ls (Go1.cont (a.1,a.2.1,a.2.2.2.1,i64.wrap (a.2.2.2.1+a.2.1),ZdX a.2.2.2.2.1 (Int.toNat a.2.2.1) (Int.toNat a.2.2.2.1),PUnit.unit))) Ln) (Ls (Go1.brk (a.1,a.2.1,a.2.2.1,a.2.2.2.1,a.2.2.2.2.1,PUnit.unit)))
def ZDE:Ora:=ZaY false ZQJ Zhi (λa=>(a.1-a.2.2.2.1).toNat+2)
theorem ZGS:ZaB (envX prog [(304,ZqD),(305,Zqz),(160,ZbV)] [] 1023 8) (.block 0 (.loop (ZX Tryz.f234.body 0))) ZDE:=
 loopP ⟨ZlU,ZlR,ZaC,Tv⟩
def ZQI:LS:={n:=63,Sl:=[(0,.tip 0),(1,.code (So Kc)),(2,.fix (A.clo 160 [])),(6,.code (So Kc)),(7,.code (So Kc)),(8,.code (So Kc))],Bx:=[],Sg:=[⟨R.Pq Kb Ka,75,false⟩],keep:=[0]}
def Zhh (a:QT8):RT (Option (Go1 (QT8))):=
 .br (decide (a.2.2.2.1<=a.1)) (.br (Zgw a.2.2.2.2.1 a.2.2.1 (i64.wrap (a.2.2.1+a.2.1)) a.2.2.2.1) (Ls (Go1.cont (a.1,a.2.1,a.2.2.2.1,i64.wrap (a.2.2.2.1+i64.wrap (2*a.2.1)),ZdX a.2.2.2.2.1 (Int.toNat a.2.2.1) (Int.toNat a.2.2.2.1),PUnit.unit))) Ln) (Ls (Go1.brk (a.1,a.2.1,a.2.2.1,a.2.2.2.1,a.2.2.2.2.1,PUnit.unit)))
def ZlS:Ora:=ZaY false ZQI Zhh (λa=>(a.1-a.2.2.2.1).toNat+2)
theorem ZqA:ZaB (envX prog [(304,ZqD),(305,Zqz),(160,ZbV)] [] 1023 8) (.block 4 (.loop (ZX Tryz.f234.body 4))) ZlS:=
 loopP ⟨ZlU,ZlR,ZaC,Tv⟩
def ZQH:LS:={n:=63,Sl:=[(0,.tip 0),(1,.code (So Kc)),(2,.fix (A.clo 160 [])),(6,.code (So Kc))],Bx:=[],Sg:=[⟨R.Pq Kb Ka,75,false⟩],keep:=[0]}
def ZfE (a:QT14):RT (Option (Go1 (QT14))):=
 let x1:QT8:=(a.1,a.2.1,0,i64.wrap (2*a.2.1),a.2.2.1,())
 let x2:=runF false Zhh (λa_1=>Int.toNat (a_1.1-a_1.2.2.2.1)+2) x1
 let x3:=okB x2
 let x4:QT8:=(getO (false,x1) x2).2
 let x5:=x4.2
 let x6:=x5.2
 let x7:=x6.1
 let x8:=x5.1
 let x9:=i64.wrap (x7+x8)
 let x10:=x4.1
 let x11:=decide (x9<x10)
 let x12:=x6.2.2.1
 .br (decide (a.2.1<a.1)) (.br (!x3||(!x11||Zgw x12 x7 x9 x10)) (.br (x3) (Ls (Go1.cont (x10,i64.wrap (x8*2),bif x11 then ZdX x12 (Int.toNat x7) (Int.toNat x10) else x12,PUnit.unit))) Ln) Ln) (Ls (Go1.brk (a.1,a.2.1,a.2.2.1,PUnit.unit)))
def ZDD:Ora:=ZaY false ZQH ZfE (λa=>(a.1-a.2.1).toNat+1)
theorem ZGR:ZaB (envX prog [(304,ZqD),(305,Zqz),(160,ZbV)] [(4,ZlS)] 1023 8) (.block 2 (.loop (ZX Tryz.f234.body 2))) ZDD:=
 ZgY (ZbF (l:=[(304,ZqD),(305,Zqz),(160,ZbV)]) ⟨ZlU,ZlR,ZaC,Tv⟩ [(4,ZlS)] 1023 8) (ZfV (by kernel_rfl) (by kernel_rfl) ⟨ZqA,Tv⟩) (λa=>by kernel_rfl)
def Zv5 (s:List (Int×Int)) (n:Int):RT (Option (List (Int×Int))):=
 let x1:QT8:=(n,20,0,20,Stg.l (ZdJ ZcR Zsc s),())
 let x2:=runF false Zhi (λa=>Int.toNat (a.1-a.2.2.2.1)+2) x1
 let x3:QT8:=(getO (false,x1) x2).2
 let x4:=x3.2
 let x5:=x4.2
 let x6:=x5.2.2.1
 let x7:=x5.1
 let x8:=x3.1
 let x9:QT14:=(x8,x4.1,ZdX x6 (Int.toNat x7) (Int.toNat x8),())
 let x10:=runF false ZfE (λa=>Int.toNat (a.1-a.2.1)+1) x9
 .br (okB x2) (.br (ZgH x6 x7 x8) (.br (okB x10) (Ls (getO (false,x9) x10).2.2.2.1) Ln) Ln) Ln
def ZYg (s:List (Int×Int)) (n:Int):List (Int×Int):=getO [] (Zv5 s n).val
def ZTE (s:List (Int×Int)) (n:Int):Bool:=okB (Zv5 s n).val
def ZYf:En:=stE ZcR Zsc 160 ZzI (λa=>some (ZTE a.1 a.2)) (λa=>ZYg a.1 a.2)
theorem ZQG:Zb prog 234 ZYf:=
 Zm3 (P:=prog) (n:=1023) (k:=8) (l:=[(304,ZqD),(305,Zqz),(160,ZbV)]) (ol:=[(0,ZDE),(4,ZlS),(2,ZDD)]) ⟨ZlU,ZlR,ZaC,Tv⟩ Tryz.func234 rfl (by kernel_rfl) Tryz.call234 ⟨ZGS,ZqA,ZGR,Tv⟩ (r:=ZcR) (T:=Zsc) (g0:=160) (ts:=ZzI) (t:=λa=>Zv5 a.1 a.2) (λa=>by kernel_rfl)
def sb (s:List Cell) (c d:Nat):List Cell:=(s.drop c).take (d-c)
theorem ZKJ (X T:List Cell) (c d:Nat) (h:d<=X.length):sb (X++T) c d=sb X c d:=by
 unfold sb;by_cases hc:c<=X.length
 ·rw[List.drop_append_of_le_length hc,List.take_append_of_le_length (by simp;omega)]
 ·rw[show d-c=0 by omega];simp
theorem ZTP (X L Y:List Cell):sb (X++L++Y) X.length (X.length+L.length)=L:=by unfold sb;rw[Yn,Yae rfl,Yao (by omega)]
theorem ZKI (X T:List Cell) (c d:Nat) (h:X.length<=c):sb (X++T) c d=sb T (c-X.length) (d-X.length):=by unfold sb;rw[List.drop_append,Y7 h,List.nil_append];congr 1;omega
theorem ZfJ (s:List Cell) (a b:Nat) (h1:a<=b) (h2:b<=s.length):
  (ZdX s a b).length=s.length/\Sm (ZdX s a b) s/\(∀c d,d<=a->sb (ZdX s a b) c d=sb s c d)/\(∀c d,b<=c->sb (ZdX s a b) c d=sb s c d)/\sb (ZdX s a b) a b=isort (sb s a b):=by
 obtain⟨X,L,Y,rfl,rfl,rfl⟩:=ZT6 s a b h1 h2;rw[Zso,ZTP];refine⟨by simp[Zey],((Sm.refl X).app (ZfW L)).app (Sm.refl Y),λc d h=> ?_,λc d h=> ?_,?_⟩
 ·rw[Yn,Yn,ZKJ _ _ _ _ h,ZKJ _ _ _ _ h]
 ·rw[ZKI (X++isort L) Y c d (by simp[Zey];omega),ZKI (X++L) Y c d (by simp;omega)];simp[Zey]
 ·have:=ZTP X (isort L) Y;rwa [Zey] at this
def Blk (w:Nat) (s:List Cell):Prop:=∀i,Srt (sb s (w*i) (w*i+w))
theorem ZsA (s:List Cell) (c d:Nat) (h:s.length<=d):sb s c d=s.drop c:=by unfold sb;exact Y2 (by simp;omega)
theorem ZKH (s:List Cell) (c d:Nat) (h:s.length<=c):sb s c d=[]:=by unfold sb;rw[Y7 h];simp
theorem Zq1 (s:List Cell) (a b:Nat) (h1:a<=b) (h2:b<=s.length) (hm:s.length<=most):ZgH s a b=true:=by simp only[ZgH,Yc,Yk,YG];omega
theorem loop0 (L:List Cell) (hm:L.length<=most):
  ∃r,runF false Zhi (λa=>Int.toNat (a.1-a.2.2.2.1)+2) ((L.length:Int),20,0,20,L,())=some r/\
   ∃(j:Nat) (s:List Cell),r.2=((L.length:Int),20,((20*j:Nat):Int),((20*j+20:Nat):Int),s,())/\20*j<=L.length/\L.length<20*j+20/\s.length=L.length/\Sm s L/\∀i,i<j->Srt (sb s (20*i) (20*i+20)):=by
 have hms:=mst;refine ZA (fl:=false) (t:=Zhi) (fuel:=λa=>Int.toNat (a.1-a.2.2.2.1)+2)
  (I:=λa=>∃(j:Nat) (s:List Cell),a=((L.length:Int),20,((20*j:Nat):Int),((20*j+20:Nat):Int),s,())/\20*j<=L.length/\s.length=L.length/\Sm s L/\∀i,i<j->Srt (sb s (20*i) (20*i+20)))
  (m:=λa=>Int.toNat (a.1-a.2.2.2.1+1)) (R:=λr=>∃(j:Nat) (s:List Cell),r.2=((L.length:Int),20,((20*j:Nat):Int),((20*j+20:Nat):Int),s,())/\20*j<=L.length/\L.length<20*j+20/\s.length=L.length/\Sm s L/\∀i,i<j->Srt (sb s (20*i) (20*i+20)))
  (λa hi=> ?_) _ ⟨0,L,by simp,by omega,rfl,Sm.refl L,λi h=>by omega⟩ (by simp only;omega)
 obtain⟨j,s,rfl,h1,h2,h3,h4⟩:=hi;by_cases hb:20*j+20<=L.length
 ·left;have d:decide (((20*j+20:Nat):Int)<=(L.length:Int))=true:=by simp;omega
  have hr:=Zq1 s (20*j) (20*j+20) (by omega) (by omega) (by omega);have w:IntKind.wrap .i64 (((20*j+20:Nat):Int)+20)=((20*(j+1)+20:Nat):Int):=by rw[wrap_i64 _ (by omega) (by omega)];omega
  obtain⟨f1,f2,f3,f4,f5⟩:=ZfJ s (20*j) (20*j+20) (by omega) (by omega);refine⟨((L.length:Int),20,((20*j+20:Nat):Int),((20*(j+1)+20:Nat):Int),ZdX s (20*j) (20*j+20),()),?_,⟨j+1,_,rfl,by omega,by omega,f2.trans h3,λi hi=> ?_⟩,by simp only;omega⟩
  ·simp only[Zhi,RT.val,d,hr,Ya,w,Int.toNat_natCast]
  ·by_cases hij:i=j
   ·subst hij;rw[f5];exact Zb5 _
   ·rw[f3 _ _ (by omega)];exact h4 i (by omega)
 ·right;left;have d:decide (((20*j+20:Nat):Int)<=(L.length:Int))=false:=by simp;omega
  exact⟨_,by simp only[Zhi,RT.val,d,Yb],j,s,rfl,h1,by omega,h2,h3,h4⟩
theorem Zwh (s:List Cell) (a m b:Nat) (h1:a<m) (h2:m<b) (h3:b<=s.length) (hm:s.length<=most) (k1:Srt (sb s a m)) (k2:Srt (sb s m b)):Zgw s a m b=true:=by simp only[Zgw,Int.toNat_natCast,Yc];refine⟨⟨?_,ZfI.2 k1⟩,ZfI.2 k2⟩;simp only[ZiY,Yc,Yk,YG];omega
theorem loop1 (L:List Cell) (w n:Nat) (hn:n=L.length) (hw:0<w) (hw2:w<=2*most) (hm:L.length<=most) (hB:Blk w L):
  ∃r,runF false Zhh (λa=>Int.toNat (a.1-a.2.2.2.1)+2) ((n:Int),(w:Int),0,((2*w:Nat):Int),L,())=some r/\
   ∃(j:Nat) (s:List Cell),r.2=((n:Int),(w:Int),((2*w*j:Nat):Int),((2*w*j+2*w:Nat):Int),s,())/\2*w*j<=n/\n<2*w*j+2*w/\s.length=n/\Sm s L/\(∀i,i<j->Srt (sb s (2*w*i) (2*w*i+2*w)))/\∀i,2*w*j<=w*i->Srt (sb s (w*i) (w*i+w)):=by
 have hms:=mst;refine ZA (fl:=false) (t:=Zhh) (fuel:=λa=>Int.toNat (a.1-a.2.2.2.1)+2)
  (I:=λa=>∃(j:Nat) (s:List Cell),a=((n:Int),(w:Int),((2*w*j:Nat):Int),((2*w*j+2*w:Nat):Int),s,())/\2*w*j<=n/\s.length=n/\Sm s L/\(∀i,i<j->Srt (sb s (2*w*i) (2*w*i+2*w)))/\∀i,2*w*j<=w*i->Srt (sb s (w*i) (w*i+w)))
  (m:=λa=>Int.toNat (a.1-a.2.2.2.1+1)) (R:=λr=>∃(j:Nat) (s:List Cell),r.2=((n:Int),(w:Int),((2*w*j:Nat):Int),((2*w*j+2*w:Nat):Int),s,())/\2*w*j<=n/\n<2*w*j+2*w/\s.length=n/\Sm s L/\(∀i,i<j->Srt (sb s (2*w*i) (2*w*i+2*w)))/\∀i,2*w*j<=w*i->Srt (sb s (w*i) (w*i+w)))
  (λa hi=> ?_) _ ⟨0,L,by simp,by omega,hn.symm,Sm.refl L,λi h=>by omega,λi _=>hB i⟩ (by simp only;omega)
 obtain⟨j,s,rfl,h1,h2,h3,h4,h5⟩:=hi;have q1:2*w*(j+1)=2*w*j+2*w:=by rw[Nat.mul_add];omega
 by_cases hb:2*w*j+2*w<=n
 ·left;have d:decide (((2*w*j+2*w:Nat):Int)<=(n:Int))=true:=Yq (Int.ofNat_le.2 hb);have e1:IntKind.wrap .i64 (((2*w*j:Nat):Int)+(w:Int))=((2*w*j+w:Nat):Int):=wadd _ _ (by omega);have e2:IntKind.wrap .i64 (2*(w:Int))=((2*w:Nat):Int):=by rw[wrap_i64 _ (by omega) (by omega)];omega
  have e3:IntKind.wrap .i64 (((2*w*j+2*w:Nat):Int)+((2*w:Nat):Int))=((2*w*(j+1)+2*w:Nat):Int):=by rw[wadd _ _ (by omega),q1]
  have hr:=Zwh s (2*w*j) (2*w*j+w) (2*w*j+2*w) (by omega) (by omega) (by omega) (by omega)
   (by have:=h5 (2*j) (by rw[show w*(2*j)=2*w*j by rw[Nat.mul_left_comm,Nat.mul_assoc]];exact Ye _);rwa [show w*(2*j)=2*w*j by rw[Nat.mul_left_comm,Nat.mul_assoc]] at this)
   (by
    have e:w*(2*j+1)=2*w*j+w:=by rw[Nat.mul_add,Nat.mul_left_comm,Nat.mul_assoc];omega
    have:=h5 (2*j+1) (by rw[e];omega);rw[e] at this
    rwa [show 2*w*j+w+w=2*w*j+2*w by omega] at this)
  obtain⟨f1,f2,f3,f4,f5⟩:=ZfJ s (2*w*j) (2*w*j+2*w) (by omega) (by omega);refine⟨((n:Int),(w:Int),((2*w*j+2*w:Nat):Int),((2*w*(j+1)+2*w:Nat):Int),ZdX s (2*w*j) (2*w*j+2*w),()),?_,⟨j+1,_,by rw[q1],by omega,by omega,f2.trans h3,λi hi=> ?_,λi hi=> ?_⟩,by simp only;omega⟩
  ·simp only[Zhh,RT.val,d,e1,e2,hr,Ya,e3,Int.toNat_natCast]
  ·by_cases hij:i=j
   ·subst hij;rw[f5];exact Zb5 _
   ·have:2*w*i+2*w<=2*w*j:=by have:=YaP (2*w) (show i+1<=j by omega);rw[Nat.mul_add] at this;omega
    rw[f3 _ _ this];exact h4 i (by omega)
  ·rw[f4 _ _ (by omega)];exact h5 i (by omega)
 ·right;left;have d:decide (((2*w*j+2*w:Nat):Int)<=(n:Int))=false:=Yx (λh=>hb (Int.ofNat_le.1 h));exact⟨_,by simp only[Zhh,RT.val,d,Yb],j,s,rfl,h1,by omega,h2,h3,h4,h5⟩
theorem loop2 (L:List Cell) (n:Nat) (hn:n=L.length) (hm:L.length<=most) (hB:Blk 20 L):
  ∃r,runF false ZfE (λa=>Int.toNat (a.1-a.2.1)+1) ((n:Int),20,L,())=some r/\r.2.2.2.1=isort L:=by
 have hms:=mst;refine ZA (fl:=false) (t:=ZfE) (fuel:=λa=>Int.toNat (a.1-a.2.1)+1)
  (I:=λa=>∃(w:Nat) (s:List Cell),a=((n:Int),(w:Int),s,())/\0<w/\w<=2*most/\s.length=n/\Sm s L/\Blk w s)
  (m:=λa=>Int.toNat (a.1-a.2.1)) (R:=λr=>r.2.2.2.1=isort L)
  (λa hi=> ?_) _ ⟨20,L,by simp,by omega,by omega,hn.symm,Sm.refl L,hB⟩ (YaD _)
 obtain⟨w,s,rfl,h0,h1,h2,h3,h4⟩:=hi;by_cases hb:w<n
 ·left;have d:decide ((w:Int)<(n:Int))=true:=by simpa using hb
  have e0:IntKind.wrap .i64 (2*(w:Int))=((2*w:Nat):Int):=by rw[wrap_i64 _ (by omega) (by omega)];omega
  obtain⟨r,hr,j,t,hr2,k1,k2,k3,k4,k5,k6⟩:=loop1 s w n h2.symm h0 h1 (by omega) h4;have e1:IntKind.wrap .i64 (((2*w*j:Nat):Int)+(w:Int))=((2*w*j+w:Nat):Int):=wadd _ _ (by omega);have e2:IntKind.wrap .i64 ((w:Int)*2)=((2*w:Nat):Int):=by rw[wrap_i64 _ (by omega) (by omega)];omega
  have eA:w*(2*j)=2*w*j:=by rw[Nat.mul_left_comm,Nat.mul_assoc]
  have eB:w*(2*j+1)=2*w*j+w:=by rw[Nat.mul_add,eA];omega
  have s1:=k6 (2*j) (by rw[eA];exact Ye _);have s2:=k6 (2*j+1) (by rw[eB];omega);rw[eA] at s1;rw[eB] at s2;have tail:∀i,j<i->n<=2*w*i:=λi hi=>by have:=YaP (2*w) (show j+1<=i by omega);rw[Nat.mul_add] at this;omega
  by_cases hm2:2*w*j+w<n
  ·have d2:decide (((2*w*j+w:Nat):Int)<(n:Int))=true:=Yq (Int.ofNat_lt.2 hm2);have s2':Srt (sb t (2*w*j+w) n):=by rw[ZsA _ _ _ (by omega)];rwa [ZsA _ _ _ (by omega)] at s2
   have ho:=Zwh t (2*w*j) (2*w*j+w) n (by omega) hm2 (by omega) (by omega) s1 s2';obtain⟨f1,f2,f3,f4,f5⟩:=ZfJ t (2*w*j) n (by omega) (by omega);refine⟨((n:Int),((2*w:Nat):Int),ZdX t (2*w*j) n,()),?_,⟨2*w,_,rfl,by omega,by omega,by omega,f2.trans (k4.trans h3),λi=> ?_⟩,by simp only;omega⟩
   ·simp only[ZfE,RT.val,d,e0,hr,hr2,okB,getO,Ya,e1,d2,ho,e2,Yf,Yj,Yi,Int.toNat_natCast]
   ·rcases Nat.lt_trichotomy i j with hij|hij|hij
    ·have:2*w*i+2*w<=2*w*j:=by have:=YaP (2*w) (show i+1<=j by omega);rw[Nat.mul_add] at this;omega
     rw[f3 _ _ this];exact k5 i hij
    ·subst hij;rw[ZsA _ _ _ (by omega),<-ZsA _ _ n (by omega),f5];exact Zb5 _
    ·rw[ZKH _ _ _ (by have:=tail i hij;omega)];exact Yal
  ·have d2:decide (((2*w*j+w:Nat):Int)<(n:Int))=false:=Yx (λh=>hm2 (Int.ofNat_lt.1 h));refine⟨((n:Int),((2*w:Nat):Int),t,()),?_,⟨2*w,_,rfl,by omega,by omega,by omega,k4.trans h3,λi=> ?_⟩,by simp only;omega⟩
   ·simp only[ZfE,RT.val,d,e0,hr,hr2,okB,getO,Ya,Yb,e1,d2,e2,Yf,Yl,Yv,Yj,Yi,Int.toNat_natCast]
   ·rcases Nat.lt_trichotomy i j with hij|hij|hij
    ·exact k5 i hij
    ·subst hij;rw[ZsA _ _ _ (by omega)];rwa [ZsA _ _ _ (by omega)] at s1
    ·rw[ZKH _ _ _ (by have:=tail i hij;omega)];exact Yal
 ·right;left;have d:decide ((w:Int)<(n:Int))=false:=by simpa using hb
  refine⟨((n:Int),(w:Int),s,()),by simp only[ZfE,RT.val,d,Yb],?_⟩;have:=h4 0;rw[ZsA _ _ _ (by omega)] at this;exact (ZhE (by simpa using this) h3).symm
theorem ZQZ (L:List Cell) (hm:L.length<=most):(Zv5 L L.length).val=some (isort L):=by
 have hms:=mst;obtain⟨r,hr,j,s,hr2,k1,k2,k3,k4,k5⟩:=loop0 L hm;have hok:=Zq1 s (20*j) L.length k1 (by omega) (by omega);obtain⟨f1,f2,f3,f4,f5⟩:=ZfJ s (20*j) L.length k1 (by omega)
 obtain⟨q,hq,hq2⟩:=loop2 (ZdX s (20*j) L.length) L.length (by omega) (by omega) (λi=>by
  rcases Nat.lt_trichotomy i j with hij|hij|hij
  ·rw[f3 _ _ (by omega)];exact k5 i hij
  ·subst hij;rw[ZsA _ _ _ (by omega),<-ZsA _ _ L.length (by omega),f5];exact Zb5 _
  ·rw[ZKH _ _ _ (by omega)];exact Yal)
 have hfin:isort (ZdX s (20*j) L.length)=isort L:=ZpC (f2.trans k4);simp only[Zv5,ZdJ,RT.val,hr,hr2,okB,getO,Ya,hok,Int.toNat_natCast,hq,hq2,hfin]
def Zm2 (l:List Cell) (n:Int):Bool:=decide (n=l.length)&&Nat.ble l.length most
def ZJX:En:=stE ZcR Zsc 160 ZzI (λa=>some (Zm2 a.1 a.2)) (λa=>isort a.1)
theorem ZJW:Zb Tryz.prog 234 ZJX:=Zgz ZQG λa h1 h2 hp=>by
 obtain⟨l,n⟩:=a;have hp:Zm2 l n=true:=by cases h:Zm2 l n<;>simp_all
 simp only[Zm2,Yc,Yk,YG] at hp;obtain⟨rfl,p2⟩:=hp;have:=ZQZ l p2;simp only[ZTE,ZYg];rw[this];simp[okB,getO]
abbrev Zvx:En:=ZrP (R.Pq Kb Ka) Zsc
theorem Zp3:Zb Tryz.prog 98 Zvx:=
 ZrO (P:=Tryz.prog) (n:=15) (k:=8) (l:=[]) (ol:=[]) trivial Tryz.func98 rfl (by kernel_rfl) Tryz.call98 trivial
  (λm=>⟨{chk:=none,v:=.w (.one .nilsl),m:=m,bd:=[],sd:=[]},by kernel_rfl,rfl,rfl⟩)
  (λm l h=>⟨{chk:=none,v:=.w (.one (.tip (len m.Sg) 0)),m:={m with Sg:=m.Sg++[Zh7 (R.Pq (R.int u16) (R.int u8)) Zsc l]},bd:=[],sd:=[]},by
   have e:(Zx (envX Tryz.prog [] [] 15 8) Tryz.f98 [.w (.one (.lst (R.Pq (R.int u16) (R.int u8)) false false true l))] m).val=cond (Nat.ble ([]++l).length most) (some {chk:=none,v:=.w (.one (.tip (len m.Sg) 0)),m:={m with Sg:=m.Sg++[Zh7 (R.Pq (R.int u16) (R.int u8)) Zsc ([]++l)]},bd:=[],sd:=[]}) none:=by kernel_rfl
   rw[e,List.nil_append,h];rfl,rfl,rfl⟩)
