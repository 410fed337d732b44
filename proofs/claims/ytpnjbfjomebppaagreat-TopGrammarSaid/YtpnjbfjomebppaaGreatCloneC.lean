import Derived.Test.YtpnjbfjomebppaaGreatSortA
import Derived.Test.YtpnjbfjomebppaaGreatS3Nil
open Go.IntKind (u8 u16 i64)
set_option linter.unusedSimpArgs false
open Go Go.S3 Go.Proofs
set_option linter.unusedVariables false
set_option maxRecDepth 100000
namespace Go.Proofs.YtpnjbfjomebppaaGreat
noncomputable section
def ZUo:LS:={n:=58,Sl:=[(0,.tip 0),(2,.code (So Kc)),(4,.fix (A.clo 160 [])),(10,.code (So Kc)),(11,.code (So Kc))],Bx:=[],Sg:=[⟨R.Pq Kb Ka,75,false⟩],keep:=[0]}
def ZjY (a:QT11):RT (Option (Go1 (QT11))):=
 let x1:= !decide (a.2.1>a.2.2.1)||ZhA a.2.2.2.1 (i64.wrap (a.1-a.2.1)) a.1 a.2.2.1
 let x2:=i64.wrap (i64.wrap (a.1+a.2.2.1)-a.2.1)
 .br (a.2.1 !=a.2.2.1) (.br (!x1||(decide (a.2.1>a.2.2.1)||ZhA a.2.2.2.1 (i64.wrap (a.1-a.2.1)) x2 a.2.1)) (.br (x1) (Ls (Go1.cont (a.1,bif decide (a.2.1>a.2.2.1) then i64.wrap (a.2.1-a.2.2.1) else a.2.1,bif decide (a.2.1>a.2.2.1) then a.2.2.1 else i64.wrap (a.2.2.1-a.2.1),bif decide (a.2.1>a.2.2.1) then Zy6 a.2.2.2.1 (Int.toNat (i64.wrap (a.1-a.2.1))) (Int.toNat a.1) (Int.toNat a.2.2.1) else Zy6 a.2.2.2.1 (Int.toNat (i64.wrap (a.1-a.2.1))) (Int.toNat x2) (Int.toNat a.2.1),PUnit.unit))) Ln) Ln) (Ls (Go1.brk (a.1,a.2.1,a.2.2.1,a.2.2.2.1,PUnit.unit)))
def ZJd:Ora:=Zbr false ZUo ZjY (λa=>(a.2.1+a.2.2.1).toNat+1)
theorem ZJc:Za1 (envX Tryz.prog [(388,ZyX),(160,ZbS)] [] 4095 8) (.block 0 (.loop (Z7 Tryz.f364.body 0))) ZJd:=
 loopP ⟨Zvs,Zay,Tv⟩
def ZJb (s:List (Int×Int)) (a:Int) (m:Int) (b:Int):RT (Option (List (Int×Int))):=
 let x1:QT11:=(m,i64.wrap (m-a),i64.wrap (b-m),Stg.l (ZdC ZcN ZrM s),())
 let x2:=runF false ZjY (λa_1=>Int.toNat (a_1.2.1+a_1.2.2.1)+1) x1
 let x3:QT11:=(getO (false,x1) x2).2
 let x4:=x3.2
 let x5:=x4.2.2.1
 let x6:=x3.1
 let x7:=x4.1
 let x8:=i64.wrap (x6-x7)
 .br (okB x2) (.br (ZhA x5 x8 x6 x7) (Ls (Zy6 x5 (Int.toNat x8) (Int.toNat x6) (Int.toNat x7))) Ln) Ln
def uRot (s:List (Int×Int)) (a:Int) (m:Int) (b:Int):List (Int×Int):=getO [] (ZJb s a m b).val
def ZXg (s:List (Int×Int)) (a:Int) (m:Int) (b:Int):Bool:=okB (ZJb s a m b).val
def uRotE:En:=stE ZcN ZrM 160 ZyW (λa=>some (ZXg a.1 a.2.1 a.2.2.1 a.2.2.2)) (λa=>uRot a.1 a.2.1 a.2.2.1 a.2.2.2)
theorem ZUn:Zb Tryz.prog 364 uRotE:=
 ZmN (P:=Tryz.prog) (n:=4095) (k:=8) (l:=[(388,ZyX),(160,ZbS)]) (ol:=[(0,ZJd)]) ⟨Zvs,Zay,Tv⟩ Tryz.func364 rfl (by kernel_rfl) Tryz.call364 ⟨ZJc,Tv⟩ (r:=ZcN) (T:=ZrM) (g0:=160) (ts:=ZyW) (t:=λa=>ZJb a.1 a.2.1 a.2.2.1 a.2.2.2) (λa=>by kernel_rfl)
end
end Go.Proofs.YtpnjbfjomebppaaGreat
open Go Go.S3 Go.Proofs Go.Proofs.Cells
namespace Go.Proofs.YtpnjbfjomebppaaGreat
noncomputable section
theorem ZJw (l:List Cell) (a b n:Nat) (h1:a+n<=b) (h2:b+n<=l.length):ZhA l a b n=true:=by simp only[ZhA,Yc,Yk];omega
theorem Zy5 (A U M V B:List Cell) (a b n:Nat) (h:V.length=U.length) (ha:a=A.length) (hb:b=A.length+U.length+M.length) (hn:n=U.length):
  ZhA (A++U++M++V++B) a b n=true/\Zy6 (A++U++M++V++B) a b n=A++V++M++U++B:=by subst ha hb hn;exact⟨ZJw _ _ _ _ (by omega) (by simp;omega),ZC6 A U M V B h⟩
theorem mst:most=1073741824:=rfl
theorem ZUG (X U V Y:List Cell) (hU:0<U.length) (hV:0<V.length) (hm:(X++U++V++Y).length<=most):
  (ZJb (X++U++V++Y) X.length (X.length+U.length:Nat) (X.length+U.length+V.length:Nat)).val=some (X++V++U++Y):=by
 have hms:=mst;simp only[Yd] at hm;obtain⟨r,hr,hR⟩:=ZI (fl:=false) (t:=ZjY) (fuel:=λa=>Int.toNat (a.2.1+a.2.2.1)+1)
  (I:=λa=>∃A U' V' B:List Cell,0<U'.length/\0<V'.length/\A.length+U'.length=X.length+U.length/\U'.length+V'.length<=U.length+V.length/\(A++U'++V'++B).length<=most/\A++V'++U'++B=X++V++U++Y/\a=(((X.length+U.length:Nat):Int),(U'.length:Int),(V'.length:Int),A++U'++V'++B,()))
  (m:=λa=>Int.toNat (a.2.1+a.2.2.1)) (R:=λr=>∃A U' V' B:List Cell,0<U'.length/\V'.length=U'.length/\A.length+U'.length=X.length+U.length/\(A++U'++V'++B).length<=most/\A++V'++U'++B=X++V++U++Y/\r.2=(((X.length+U.length:Nat):Int),(U'.length:Int),(V'.length:Int),A++U'++V'++B,()))
  (λa hi=>by
   obtain⟨A,U',V',B,h1,h2,h3,h4,h5,h6,rfl⟩:=hi;have h5':=h5;simp only[Yd] at h5';have w1:IntKind.wrap .i64 (((X.length+U.length:Nat):Int)-(U'.length:Int))=((A.length:Nat):Int):=by rw[wrap_i64 _ (by omega) (by omega)];omega
   by_cases he:U'.length=V'.length
   ·right;left;refine⟨_,?_,A,U',V',B,h1,he.symm,h3,h5,h6,rfl⟩;have d:(((U'.length:Nat):Int) !=(V'.length:Int))=false:=by simp[he]
    simp only[ZjY,RT.val,d,Yb]
   ·left;have d:(((U'.length:Nat):Int) !=(V'.length:Int))=true:=by simp;omega
    by_cases hlt:V'.length<U'.length
    ·obtain⟨U1,U2,rfl,hl⟩:=Zb9 U' V'.length (by omega);simp only[Yd] at*;obtain⟨q1,q2⟩:=Zy5 A U1 U2 V' B A.length (X.length+U.length) V'.length (by omega) rfl (by omega) (by omega);have e0:A++(U1++U2)++V'++B=A++U1++U2++V'++B:=by simp
     have g:decide (((U1.length+U2.length:Nat):Int)>(V'.length:Int))=true:=by simp;omega
     have w2:IntKind.wrap .i64 (((U1.length+U2.length:Nat):Int)-(V'.length:Int))=(U2.length:Int):=by rw[wrap_i64 _ (by omega) (by omega)];omega
     refine⟨(((X.length+U.length:Nat):Int),(U2.length:Int),(V'.length:Int),(A++V')++U2++U1++B,()),?_,⟨A++V',U2,U1,B,by omega,by omega,by simp;omega,by omega,by simp;omega,by rw[<-h6];simp,by rw[hl]⟩,by simp;omega⟩;rw[e0];simp only[ZjY,RT.val,d,Ya,w1,g,q1,q2,Yf,Yi,Yv,w2,Int.toNat_natCast]
    ·obtain⟨V1,V2,rfl,hl⟩:=Zb9 V' (V'.length-U'.length) (by omega);simp only[Yd] at*;obtain⟨q1,q2⟩:=Zy5 A U' V1 V2 B A.length (X.length+U.length+V1.length) U'.length (by omega) rfl (by omega) rfl;have e0:A++U'++(V1++V2)++B=A++U'++V1++V2++B:=by simp
     have g:decide (((U'.length:Nat):Int)>((V1.length+V2.length:Nat):Int))=false:=by simp;omega
     have w2:IntKind.wrap .i64 (((V1.length+V2.length:Nat):Int)-(U'.length:Int))=(V1.length:Int):=by rw[wrap_i64 _ (by omega) (by omega)];omega
     have w3:IntKind.wrap .i64 (IntKind.wrap .i64 (((X.length+U.length:Nat):Int)+((V1.length+V2.length:Nat):Int))-(U'.length:Int))=((X.length+U.length+V1.length:Nat):Int):=by rw[wrap_i64 (((X.length+U.length:Nat):Int)+_) (by omega) (by omega),wrap_i64 _ (by omega) (by omega)];omega
     have hl2:U'.length=V2.length:=by omega
     refine⟨(((X.length+U.length:Nat):Int),(U'.length:Int),(V1.length:Int),A++V2++V1++U'++B,()),?_,⟨A,V2,V1,U'++B,by omega,by omega,by omega,by omega,by simp;omega,by rw[<-h6];simp,by rw[hl2];simp⟩,by simp;omega⟩;rw[e0];simp only[ZjY,RT.val,d,Ya,w1,g,q1,q2,Yf,Yl,Yi,Yv,Yb,w2,w3,Int.toNat_natCast]
     )
  (((X.length+U.length:Nat):Int),(U.length:Int),(V.length:Int),X++U++V++Y,()) ⟨X,U,V,Y,hU,hV,rfl,by omega,by simp;omega,rfl,rfl⟩ (YaE _)
 obtain⟨A,U',V',B,h1,h2,h3,h5,h6,hr2⟩:=hR;have h5':=h5;simp only[Yd] at h5';have w0:IntKind.wrap .i64 (((X.length+U.length:Nat):Int)-(X.length:Int))=(U.length:Int):=by rw[wrap_i64 _ (by omega) (by omega)];omega
 have w0':IntKind.wrap .i64 (((X.length+U.length+V.length:Nat):Int)-((X.length+U.length:Nat):Int))=(V.length:Int):=by rw[wrap_i64 _ (by omega) (by omega)];omega
 have w1:IntKind.wrap .i64 (((X.length+U.length:Nat):Int)-(U'.length:Int))=((A.length:Nat):Int):=by rw[wrap_i64 _ (by omega) (by omega)];omega
 obtain⟨q1,q2⟩:=Zy5 A U' [] V' B A.length (X.length+U.length) U'.length h2 rfl (by simp;omega) rfl;rw[YC] at q1 q2;simp only[ZJb,ZdC,RT.val,w0,w0',hr,okB,getO,Ya,hr2,w1,q1,q2,Int.toNat_natCast,YC,h6]
def rotX (l:List Cell) (a m b:Nat):List Cell:=l.take a++(l.drop m).take (b-m)++(l.drop a).take (m-a)++l.drop b
theorem ZJ1 (X U V Y:List Cell):rotX (X++U++V++Y) X.length (X.length+U.length) (X.length+U.length+V.length)=X++V++U++Y:=by
 unfold rotX;have e1:(X++U++V++Y).take X.length=X:=by simp[Yp]
 have e2:((X++U++V++Y).drop (X.length+U.length)).take (X.length+U.length+V.length-(X.length+U.length))=V:=by
  have:X++U++V++Y=(X++U)++(V++Y):=by simp
  rw[this,Yag (by simp),Yat (by omega)]
 have e3:((X++U++V++Y).drop X.length).take (X.length+U.length-X.length)=U:=by
  have:X++U++V++Y=X++(U++(V++Y)):=by simp
  rw[this,Yag rfl,Yat (by omega)]
 have e4:(X++U++V++Y).drop (X.length+U.length+V.length)=Y:=Yag (by simp;omega);rw[e1,e2,e3,e4]
theorem ZS8 {α:Type} (l:List α) (a m b:Nat) (h1:a<=m) (h2:m<=b) (h3:b<=l.length):∃X U V Y:List α,l=X++U++V++Y/\X.length=a/\X.length+U.length=m/\X.length+U.length+V.length=b:=by obtain⟨X,l1,rfl,hX⟩:=Zb9 l a (by omega);simp only[Yd] at h3;obtain⟨U,l2,rfl,hU⟩:=Zb9 l1 (m-a) (by omega);simp only[Yd] at h3;obtain⟨V,Y,rfl,hV⟩:=Zb9 l2 (b-m) (by omega);exact⟨X,U,V,Y,by simp,hX,by omega,by omega⟩
def ZiA (l:List Cell) (a m b:Int):Bool:=decide (0<=a)&&decide (a<m)&&decide (m<b)&&decide (b<=l.length)&&Nat.ble l.length most
def ZmB:En:=stE ZcN ZrM 160 ZyW (λa=>some (ZiA a.1 a.2.1 a.2.2.1 a.2.2.2)) (λa=>rotX a.1 a.2.1.toNat a.2.2.1.toNat a.2.2.2.toNat)
theorem ZgX:Zb Tryz.prog 364 ZmB:=Zgf ZUn λa h1 h2 hp=>by
 obtain⟨l,a,m,b⟩:=a;have hp:ZiA l a m b=true:=by cases h:ZiA l a m b<;>simp_all
 simp only[ZiA,Yc,Yk,YF] at hp;obtain⟨⟨⟨⟨p1,p2⟩,p3⟩,p4⟩,p5⟩:=hp;obtain⟨a,rfl⟩:=Y2 p1;obtain⟨m,rfl⟩:=Y2 (show (0:Int)<=m by omega);obtain⟨b,rfl⟩:=Y2 (show (0:Int)<=b by omega);obtain⟨X,U,V,Y,rfl,rfl,rfl,rfl⟩:=ZS8 l a m b (by omega) (by omega) (by omega);have:=ZUG X U V Y (by omega) (by omega) p5;simp only[ZXg,uRot,Int.toNat_natCast];rw[this,ZJ1];simp[okB,getO]
def srtB:List Cell->Bool
 |[]=>true
 |x::r=>(match r with
  |[]=>true
  |y::_=>decide (x.1<=y.1))&&srtB r
theorem Zft:∀{l:List Cell},srtB l=true↔Srt l
 |[]=>by simp[srtB,Srt]
 |[x]=>by simp[srtB,Srt]
 |x::y::r=>by
  have ih:=Zft (l:=y::r);rw[srtB];simp only[Yc,Yk,ih];constructor
  ·rintro⟨h1,h2⟩;refine YB.2 ⟨λz hz=> ?_,h2⟩;rcases Yx.1 hz with rfl|hz
   ·exact h1
   ·have:=(YB.1 h2).1 z hz;omega
  ·intro h;have:=YB.1 h;exact⟨this.1 y (by simp),this.2⟩
def Ziv (k:Int) (l:List Cell) (a m b:Int):Bool:=ZiA l a m b&&decide (b-a<=k)&&srtB ((l.drop a.toNat).take (m.toNat-a.toNat))&&srtB ((l.drop m.toNat).take (b.toNat-m.toNat))
def ZUy (k:Int):En:=stE ZcN ZrM 160 ZyW (λa=>some (Ziv k a.1 a.2.1 a.2.2.1 a.2.2.2)) (λa=>ZdO a.1 a.2.1.toNat a.2.2.2.toNat)
end
end Go.Proofs.YtpnjbfjomebppaaGreat
open Go.Proofs.Tryz (prog)
namespace Go.Proofs.YtpnjbfjomebppaaGreat
noncomputable section
def ZUm:LS:={n:=220,Sl:=[(0,.tip 0),(1,.code (So Kc)),(4,.fix (A.clo 160 [])),(10,.code (So Kc)),(11,.code (So Kc))],Bx:=[],Sg:=[⟨R.Pq Kb Ka,75,false⟩],keep:=[0]}
def ZjX (a:QT11):RT (Option (Go1 (QT11))):=
 let x1:=i64.wrap (shrI IntKind.u64 (IntKind.u64.wrap (i64.wrap (a.2.1+a.2.2.1))) 1)
 let x2:=Zf x1 (Le a.2.2.2.1)
 let x3:= !x2||Zf a.1 (Le a.2.2.2.1)
 let x4:=decide (ZpY (R.get (R.Pq Kb Ka) a.2.2.2.1 x1) (R.get (R.Pq Kb Ka) a.2.2.2.1 a.1)<0)
 .br (decide (a.2.1<a.2.2.1)) (.br (!x3||x2) (.br (x3) (Ls (Go1.cont (a.1,bif x4 then i64.wrap (x1+1) else a.2.1,bif x4 then a.2.2.1 else x1,a.2.2.2.1,PUnit.unit))) Ln) Ln) (Ls (Go1.brk (a.1,a.2.1,a.2.2.1,a.2.2.2.1,PUnit.unit)))
def ZI6:Ora:=Zbr false ZUm ZjX (λa=>(a.2.2.1-a.2.1).toNat+1)
theorem ZI5:Za1 (envX prog [(364,ZmB),(160,ZbS)] [] 33554431 8) (.block 0 (.loop (Z7 Tryz.f305.body 0))) ZI6:=
 loopP ⟨ZgX,Zay,Tv⟩
def ZUl:LS:={n:=220,Sl:=[(0,.tip 0),(10,.code (So Kc)),(13,.code (So Kc))],Bx:=[],Sg:=[⟨R.Pq Kb Ka,75,false⟩],keep:=[0]}
def ZjW (a:QT12):RT (Option (Go1 (QT12))):=
 let x1:= !Zf (i64.wrap (a.2.1+1)) (Le a.2.2.1)
 let x2:=setI a.2.2.1 a.2.1 (R.get (R.Pq Kb Ka) a.2.2.1 (i64.wrap (a.2.1+1)))
 let x3:=x1||(!Zf a.2.1 (Le a.2.2.1)||(!Zf a.2.1 (Le a.2.2.1)||Zf (i64.wrap (a.2.1+1)) (Le x2)))
 let x4:= !x3
 let x5:=x1||(!Zf a.2.1 (Le a.2.2.1)||Zf a.2.1 (Le a.2.2.1))
 let x6:= !x5
 let x7:=x1||Zf a.2.1 (Le a.2.2.1)
 .br (decide (a.2.1<i64.wrap (a.1-1))) (.br (x4||(x6||(!x7||Zf (i64.wrap (a.2.1+1)) (Le a.2.2.1)))) (.br (x4||(x6||x7)) (.br (x4||x5) (.br (x3) (Ls (Go1.cont (a.1,i64.wrap (a.2.1+1),setI x2 (i64.wrap (a.2.1+1)) (R.get (R.Pq Kb Ka) a.2.2.1 a.2.1),PUnit.unit))) Ln) Ln) Ln) Ln) (Ls (Go1.brk (a.1,a.2.1,a.2.2.1,PUnit.unit)))
def ZI4:Ora:=Zbr false ZUl ZjW (λa=>(a.1-a.2.1).toNat+1)
theorem ZI3:Za1 (envX prog [(364,ZmB),(160,ZbS)] [] 33554431 8) (.block 2 (.loop (Z7 Tryz.f305.body 2))) ZI4:=
 loopP ⟨ZgX,Zay,Tv⟩
def ZUk:LS:={n:=220,Sl:=[(0,.tip 0),(2,.code (So Kc)),(4,.fix (A.clo 160 [])),(14,.code (So Kc)),(15,.code (So Kc))],Bx:=[],Sg:=[⟨R.Pq Kb Ka,75,false⟩],keep:=[0]}
def ZjV (a:QT11):RT (Option (Go1 (QT11))):=
 let x1:=i64.wrap (shrI IntKind.u64 (IntKind.u64.wrap (i64.wrap (a.2.1+a.2.2.1))) 1)
 let x2:= !Zf a.1 (Le a.2.2.2.1)||Zf x1 (Le a.2.2.2.1)
 let x3:= !decide (ZpY (R.get (R.Pq Kb Ka) a.2.2.2.1 a.1) (R.get (R.Pq Kb Ka) a.2.2.2.1 x1)<0)
 .br (decide (a.2.1<a.2.2.1)) (.br (!x2||Zf a.1 (Le a.2.2.2.1)) (.br (x2) (Ls (Go1.cont (a.1,bif x3 then i64.wrap (x1+1) else a.2.1,bif x3 then a.2.2.1 else x1,a.2.2.2.1,PUnit.unit))) Ln) Ln) (Ls (Go1.brk (a.1,a.2.1,a.2.2.1,a.2.2.2.1,PUnit.unit)))
def ZI2:Ora:=Zbr false ZUk ZjV (λa=>(a.2.2.1-a.2.1).toNat+1)
theorem ZI1:Za1 (envX prog [(364,ZmB),(160,ZbS)] [] 33554431 8) (.block 4 (.loop (Z7 Tryz.f305.body 4))) ZI2:=
 loopP ⟨ZgX,Zay,Tv⟩
def ZUj:LS:={n:=220,Sl:=[(0,.tip 0),(14,.code (So Kc)),(17,.code (So Kc))],Bx:=[],Sg:=[⟨R.Pq Kb Ka,75,false⟩],keep:=[0]}
def ZjU (a:QT12):RT (Option (Go1 (QT12))):=
 let x1:= !Zf (i64.wrap (a.2.1-1)) (Le a.2.2.1)
 let x2:=setI a.2.2.1 a.2.1 (R.get (R.Pq Kb Ka) a.2.2.1 (i64.wrap (a.2.1-1)))
 let x3:=x1||(!Zf a.2.1 (Le a.2.2.1)||(!Zf a.2.1 (Le a.2.2.1)||Zf (i64.wrap (a.2.1-1)) (Le x2)))
 let x4:= !x3
 let x5:=x1||(!Zf a.2.1 (Le a.2.2.1)||Zf a.2.1 (Le a.2.2.1))
 let x6:= !x5
 let x7:=x1||Zf a.2.1 (Le a.2.2.1)
 .br (decide (a.2.1>a.1)) (.br (x4||(x6||(!x7||Zf (i64.wrap (a.2.1-1)) (Le a.2.2.1)))) (.br (x4||(x6||x7)) (.br (x4||x5) (.br (x3) (Ls (Go1.cont (a.1,i64.wrap (a.2.1-1),setI x2 (i64.wrap (a.2.1-1)) (R.get (R.Pq Kb Ka) a.2.2.1 a.2.1),PUnit.unit))) Ln) Ln) Ln) Ln) (Ls (Go1.brk (a.1,a.2.1,a.2.2.1,PUnit.unit)))
def ZI0:Ora:=Zbr false ZUj ZjU (λa=>(a.2.1-a.1).toNat+1)
theorem ZIZ:Za1 (envX prog [(364,ZmB),(160,ZbS)] [] 33554431 8) (.block 6 (.loop (Z7 Tryz.f305.body 6))) ZI0:=
 loopP ⟨ZgX,Zay,Tv⟩
def ZUi:LS:={n:=220,Sl:=[(0,.tip 0),(1,.code (So Kc)),(2,.code (So Kc)),(3,.code (So Kc)),(4,.fix (A.clo 160 [])),(18,.code (So Kc)),(19,.code (So Kc)),(20,.code (So Kc)),(21,.code (So Kc)),(22,.code (So Kc))],Bx:=[],Sg:=[⟨R.Pq Kb Ka,75,false⟩],keep:=[0]}
def ZjT (a:QT14):RT (Option (Go1 (QT14))):=
 let x1:=i64.wrap (shrI IntKind.u64 (IntKind.u64.wrap (i64.wrap (a.2.2.2.2.2.1+a.2.2.2.2.2.2.1))) 1)
 let x2:=i64.wrap (a.2.2.2.2.2.2.2.1-x1)
 let x3:=Zf x2 (Le a.2.2.2.2.2.2.2.2.1)
 let x4:= !x3||Zf x1 (Le a.2.2.2.2.2.2.2.2.1)
 let x5:= !decide (ZpY (R.get (R.Pq Kb Ka) a.2.2.2.2.2.2.2.2.1 x2) (R.get (R.Pq Kb Ka) a.2.2.2.2.2.2.2.2.1 x1)<0)
 let x6:Int×List (Int×Int)×PUnit:=(a.2.2.2.2.2.2.2.1,a.2.2.2.2.2.2.2.2.1,PUnit.unit)
 .br (decide (a.2.2.2.2.2.1<a.2.2.2.2.2.2.1)) (.br (!x4||x3) (.br (x4) (Ls (Go1.cont (a.1,a.2.1,a.2.2.1,a.2.2.2.1,a.2.2.2.2.1,bif x5 then i64.wrap (x1+1) else a.2.2.2.2.2.1,bif x5 then a.2.2.2.2.2.2.1 else x1,x6))) Ln) Ln) (Ls (Go1.brk (a.1,a.2.1,a.2.2.1,a.2.2.2.1,a.2.2.2.2.1,a.2.2.2.2.2.1,a.2.2.2.2.2.2.1,x6)))
def ZIY:Ora:=Zbr false ZUi ZjT (λa=>(a.2.2.2.2.2.2.1-a.2.2.2.2.2.1).toNat+1)
theorem ZIX:Za1 (envX prog [(364,ZmB),(160,ZbS)] [] 33554431 8) (.block 8 (.loop (Z7 Tryz.f305.body 8))) ZIY:=
 loopP ⟨ZgX,Zay,Tv⟩
def ZrK (k:Int) (s:List (Int×Int)) (a:Int) (m:Int) (b:Int):RT (Option (List (Int×Int))):=
 let x1:=runF false ZjX (λa_1=>Int.toNat (a_1.2.2.1-a_1.2.1)+1) (a,m,b,Stg.l (ZdC ZcN ZrM s),())
 let x2:QT11:=(getO (false,a,m,b,Stg.l (ZdC ZcN ZrM s),()) x1).2
 let x3:=x2.2
 let x4:QT12:=(x3.1,x2.1,x3.2.2.1,())
 let x5:=runF false ZjW (λa_1=>Int.toNat (a_1.1-a_1.2.1)+1) x4
 let x6:=runF false ZjV (λa_1=>Int.toNat (a_1.2.2.1-a_1.2.1)+1) (m,a,m,Stg.l (ZdC ZcN ZrM s),())
 let x7:QT11:=(getO (false,m,a,m,Stg.l (ZdC ZcN ZrM s),()) x6).2
 let x8:=x7.2
 let x9:QT12:=(x8.1,x7.1,x8.2.2.1,())
 let x10:=runF false ZjU (λa_1=>Int.toNat (a_1.2.1-a_1.1)+1) x9
 let x11:=i64.wrap (i64.wrap (shrI IntKind.u64 (IntKind.u64.wrap (i64.wrap (a+b))) 1)+m)
 let x12:=decide (m>i64.wrap (shrI IntKind.u64 (IntKind.u64.wrap (i64.wrap (a+b))) 1))
 let x13:QT14:=(a,m,b,i64.wrap (shrI IntKind.u64 (IntKind.u64.wrap (i64.wrap (a+b))) 1),x11,bif x12 then i64.wrap (x11-b) else a,bif x12 then i64.wrap (shrI IntKind.u64 (IntKind.u64.wrap (i64.wrap (a+b))) 1) else m,i64.wrap (x11-1),Stg.l (ZdC ZcN ZrM s),())
 let x14:=runF false ZjT (λa_1=>Int.toNat (a_1.2.2.2.2.2.2.1-a_1.2.2.2.2.2.1)+1) x13
 let x15:QT14:=(getO (false,x13) x14).2
 let x16:=x15.2
 let x17:=x16.2
 let x18:=x17.2
 let x19:=x18.2
 let x20:=x19.2
 let x21:=x20.1
 let x22:=x16.1
 let x23:=i64.wrap (x19.1-x21)
 let x24:=decide (x21<x22)&&decide (x22<x23)
 let x25:=x20.2.2.2.1
 let x26:=x15.1
 let x27:=x18.1
 let x28:=decide (x26<x21)&&decide (x21<x27)
 let x29:List (Int×Int):=bif x24 then rotX x25 (Int.toNat x21) (Int.toNat x22) (Int.toNat x23) else x25
 let x30:=x17.1
 let x31:=decide (x27<x23)&&decide (x23<x30)
 let x32:Nat:=Int.toNat x27
 let x33:List (Int×Int):=bif x28 then ZdO x29 (Int.toNat x26) x32 else x29
 .br (!i64.wrap (m-a)==1||okB x1) (.br (!i64.wrap (m-a)==1||okB x5) (.br (i64.wrap (m-a)==1) (Ls (getO (false,x4) x5).2.2.2.1) (.br (!i64.wrap (b-m)==1||okB x6) (.br (!i64.wrap (b-m)==1||okB x10) (.br (i64.wrap (b-m)==1) (Ls (getO (false,x9) x10).2.2.2.1) (.br (okB x14) (.br (!x24||ZiA x25 x21 x22 x23) (.br (!x28||Ziv k x29 x26 x21 x27) (.br (!x31||Ziv k x33 x27 x23 x30) (Ls (bif x31 then ZdO x33 x32 (Int.toNat x30) else x33)) Ln) Ln) Ln) Ln)) Ln) Ln)) Ln) Ln
theorem ZPB (k:Int) (h:Zb prog 305 (ZUy k)) {pre:List ZcN.den×HL ZyW->Option Bool} {F:List ZcN.den×HL ZyW->List ZcN.den} (hF:∀a,(R.sl ZcN).ok a.1->okHL ZyW a.2->pre a≠some false->(ZrK k a.1 a.2.1 a.2.2.1 a.2.2.2).val=some (F a)):Zb prog 305 (stE ZcN ZrM 160 ZyW pre F):=
 ZXn (P:=prog) (n:=33554431) (k:=8) (l:=[(364,ZmB),(160,ZbS),(305,ZUy k)]) (ol:=[(0,ZI6),(2,ZI4),(4,ZI2),(6,ZI0),(8,ZIY)]) ⟨ZgX,Zay,h,Tv⟩ Tryz.func305 rfl (by kernel_rfl) Tryz.call305 ⟨ZI5,ZI3,ZI1,ZIZ,ZIX,Tv⟩ (r:=ZcN) (T:=ZrM) (g0:=160) (ts:=ZyW) (t:=λa=>ZrK k a.1 a.2.1 a.2.2.1 a.2.2.2) (λa=>by kernel_rfl) hF
theorem Zpj (i j:Nat) (h:i+j<=4611686018427387904):IntKind.wrap .i64 (shrI .u64 (IntKind.wrap .u64 (IntKind.wrap .i64 ((i:Int)+(j:Int)))) 1)=(((i+j)/2:Nat):Int):=by
 rw[wrap_i64 ((i:Int)+(j:Int)) (by omega) (by omega)];have e:IntKind.wrap .u64 ((i:Int)+(j:Int))=((i+j:Nat):Int):=by rw[Zry ⟨by simp[IntKind.min,IntKind.signed];omega,by simp[IntKind.max,IntKind.signed,IntKind.bits];omega⟩];simp
 rw[e];have:shrI .u64 ((i+j:Nat):Int) 1=(((i+j)/2:Nat):Int):=by simp only[shrI,IntKind.bits];rw[show (2:Int)^(min (1:Int).toNat 64)=2 from rfl,Int.fdiv_eq_ediv_of_nonneg _ (by decide)];simp
 rw[this,wrap_i64 _ (by omega) (by omega)]
theorem ZO8 {D:Type} {T:D->RT (Option (Go1 D))} {fuel:D->Nat} (mk:Nat->Nat->D) (q:Nat->Bool) (lo hi:Nat) (hlo:lo<=hi) (hf:hi-lo<fuel (mk lo hi))
  (hstep:∀i j,lo<=i->i<j->j<=hi->(T (mk i j)).val=some (.cont (bif q ((i+j)/2) then mk ((i+j)/2+1) j else mk i ((i+j)/2))))
  (hend:∀i,lo<=i->i<=hi->(T (mk i i)).val=some (.brk (mk i i))):
  ∃i,lo<=i/\i<=hi/\runF false T fuel (mk lo hi)=some (false,mk i i)/\(i=lo\/q (i-1)=true)/\(i=hi\/q i=false):=by
 have key:∀(n i j:Nat),lo<=i->i<=j->j<=hi->j-i<n->(i=lo\/q (i-1)=true)->(j=hi\/q j=false)->
   ∃r,runL (λa=>(T a).val) n (mk i j)=some (false,mk r r)/\lo<=r/\r<=hi/\(r=lo\/q (r-1)=true)/\(r=hi\/q r=false):=by
  intro n
  induction n with
  |zero=>intro i j _ _ _ h;omega
  |succ n ih=>
   intro i j h1 h2 h3 h4 h5 h6;by_cases he:i=j
   ·subst he;exact⟨i,by simp only[runL,hend i h1 h3],h1,h3,h5,h6⟩
   ·have hs:=hstep i j h1 (by omega) h3;cases hq:q ((i+j)/2) with
    |true=>
     rw[hq] at hs;obtain⟨r,hr,hr2⟩:=ih ((i+j)/2+1) j (by omega) (by omega) h3 (by omega) (.inr (by simpa using hq)) h6;exact⟨r,by simp only[runL,hs,Ya];exact hr,hr2⟩
    |false=>
     rw[hq] at hs;obtain⟨r,hr,hr2⟩:=ih i ((i+j)/2) h1 (by omega) (by omega) (by omega) h5 (.inr hq);exact⟨r,by simp only[runL,hs,Yb];exact hr,hr2⟩
 obtain⟨r,hr,h1,h2,h3,h4⟩:=key (fuel (mk lo hi)) lo hi (Ye _) hlo (Ye _) hf (.inl rfl) (.inl rfl);exact⟨r,h1,h2,by unfold runF;rw[hr];rfl,h3,h4⟩
def el (l:List Cell) (i:Nat):Cell:=l.getD i (0,0)
theorem ZcX (l:List Cell) (i:Nat):R.get CR l (i:Int)=el l i:=by simp[R.get,el,R.Df]
theorem ZFI (X V Y:List Cell) (i:Nat) (h:i<V.length):el (X++V++Y) (X.length+i)=el V i:=by simp only[el,Yr];rw[Yp,YV (by omega),Nat.add_sub_cancel_left,Yo h]
theorem Zc8 (V:List Cell) (i:Nat) (h:i<V.length):V[i]? =some (el V i):=by simp[el,Yr,Yh h]
variable {V:List Cell}
theorem ZkZ (h:Srt V) {i j:Nat} (hij:i<=j) (hj:j<V.length):(el V i).1<=(el V j).1:=by
 by_cases e:i=j
 ·subst e;exact Int.le_refl _
 ·have h1:=Zc8 V i (by omega);have h2:=Zc8 V j hj;have:=YaG.1 h i j (by omega) hj (by omega);rw[Yh (by omega)] at h1 h2;simp only[oinj] at h1 h2;rw[<-h1,<-h2];exact this
variable {p:Nat} {y:Cell}
theorem Zl5 (h:y∈V.take p):∃i,i<p/\i<V.length/\y=el V i:=by obtain⟨i,hi,rfl⟩:=YaP.1 h;simp only[YJ] at hi;refine⟨i,by omega,by omega,?_⟩;have:=Zc8 V i (by omega);rw[Yh (by omega)] at this;simp only[oinj] at this;rw[<-this];simp
theorem Zjg (h:y∈V.drop p):∃i,p<=i/\i<V.length/\y=el V i:=by obtain⟨i,hi,rfl⟩:=YaP.1 h;simp only[YU] at hi;refine⟨p+i,by omega,by omega,?_⟩;have:=Zc8 V (p+i) (by omega);rw[Yh (by omega)] at this;simp only[oinj] at this;rw[<-this];simp
theorem ZXp (X P Rr:List Cell) (x:Cell) (hm:(X++x::(P++Rr)).length<=most):
  ∃r,runF false ZjW (λa=>Int.toNat (a.1-a.2.1)+1) (((X.length+P.length+1:Nat):Int),(X.length:Int),X++x::(P++Rr),())=some r/\r.2.2.2.1=X++P++x::Rr:=by
 have hms:=mst;simp only[Yd,List.length_cons] at hm;refine ZI (fl:=false) (t:=ZjW) (fuel:=λa=>Int.toNat (a.1-a.2.1)+1)
  (I:=λa=>∃P1 P2:List Cell,P=P1++P2/\a=(((X.length+P.length+1:Nat):Int),((X.length+P1.length:Nat):Int),X++P1++x::(P2++Rr),()))
  (m:=λa=>Int.toNat (a.1-a.2.1)) (R:=λr=>r.2.2.2.1=X++P++x::Rr)
  (λa hi=> ?_) _ ⟨[],P,rfl,by simp⟩ (YaE _)
 obtain⟨P1,P2,rfl,rfl⟩:=hi;simp only[Yd] at hm|-;have w0:IntKind.wrap .i64 (((X.length+(P1.length+P2.length)+1:Nat):Int)-1)=((X.length+P1.length+P2.length:Nat):Int):=by rw[wrap_i64 _ (by omega) (by omega)];omega
 cases P2 with
 |nil=>
  right;left;refine⟨(((X.length+(P1.length+([]:List Cell).length)+1:Nat):Int),((X.length+P1.length:Nat):Int),X++P1++x::([]++Rr),()),?_,by simp⟩;have d:decide (((X.length+P1.length:Nat):Int)<((X.length+P1.length+([]:List Cell).length:Nat):Int))=false:=by simp
  simp only[ZjW,RT.val,w0,d,Yb]
 |cons y P2=>
  left;have d:decide (((X.length+P1.length:Nat):Int)<((X.length+P1.length+(y::P2).length:Nat):Int))=true:=by simp;omega
  have w1:IntKind.wrap .i64 (((X.length+P1.length:Nat):Int)+1)=((X++P1).length:Int)+1+(([]:List Cell).length:Int):=by rw[wrap_i64 _ (by simp only[List.length_cons] at hm;omega) (by simp only[List.length_cons] at hm;omega)];simp
  have w2:((X.length+P1.length:Nat):Int)=((X++P1).length:Int):=by simp
  have e0:X++P1++x::(y::P2++Rr)=(X++P1)++x::([]++y::(P2++Rr)):=by simp
  have g1:R.get CR ((X++P1)++x::([]++y::(P2++Rr))) ((X++P1).length:Int)=x:=Zpl (r:=CR) _ _ _ _ rfl;have g2:=Zl7 (X++P1) x y [] (P2++Rr) _ rfl;have r1:=Zsb (X++P1) x ([]++y::(P2++Rr)) _ rfl;have r2:=ZlF (X++P1) x y [] (P2++Rr) _ rfl;have s1:=ZC5 (X++P1) x y [] (P2++Rr) _ _ rfl rfl;refine⟨(((X.length+(P1.length+(y::P2).length)+1:Nat):Int),((X++P1).length:Int)+1+(([]:List Cell).length:Int),(X++P1)++y::([]++x::(P2++Rr)),()),?_,⟨P1++[y],P2,by simp,by simp;omega⟩,by simp;omega⟩;rw[e0];rw[w2] at w1 d|-;simp only[ZjW,RT.val,w0,d,w1,g1,g2,r1,r2,s1,Zo8,Ya,Yf,Yj,Yi,Yw]
theorem ZXq (X Q Rr:List Cell) (y:Cell) (hm:(X++(Q++y::Rr)).length<=most):
  ∃r,runF false ZjU (λa=>Int.toNat (a.2.1-a.1)+1) ((X.length:Int),((X.length+Q.length:Nat):Int),X++(Q++y::Rr),())=some r/\r.2.2.2.1=X++y::(Q++Rr):=by
 have hms:=mst;simp only[Yd,List.length_cons] at hm;refine ZI (fl:=false) (t:=ZjU) (fuel:=λa=>Int.toNat (a.2.1-a.1)+1)
  (I:=λa=>∃Q1 Q2:List Cell,Q=Q1++Q2/\a=((X.length:Int),((X.length+Q1.length:Nat):Int),X++Q1++y::(Q2++Rr),()))
  (m:=λa=>Int.toNat (a.2.1-a.1)) (R:=λr=>r.2.2.2.1=X++y::(Q++Rr))
  (λa hi=> ?_) _ ⟨Q,[],by simp,by simp⟩ (YaE _)
 obtain⟨Q1,Q2,rfl,rfl⟩:=hi;simp only[Yd] at hm;rcases Yaf Q1 with rfl|⟨Q',z,hc⟩
 ·right;left;refine⟨((X.length:Int),((X.length+([]:List Cell).length:Nat):Int),X++[]++y::(Q2++Rr),()),?_,by simp⟩;have d:decide (((X.length+([]:List Cell).length:Nat):Int)>(X.length:Int))=false:=by simp
  simp only[ZjU,RT.val,d,Yb]
 ·rw[Y8] at hc;subst hc;left;have hl1:(Q'++[z]).length=Q'.length+1:=by simp
  have d:decide (((X.length+(Q'++[z]).length:Nat):Int)>(X.length:Int))=true:=by simp;omega
  have w1:IntKind.wrap .i64 (((X.length+(Q'++[z]).length:Nat):Int)-1)=((X++Q').length:Int):=by rw[wrap_i64 _ (by omega) (by omega)];simp;omega
  have w2:((X.length+(Q'++[z]).length:Nat):Int)=((X++Q').length:Int)+1+(([]:List Cell).length:Int):=by simp;omega
  have e0:X++(Q'++[z])++y::(Q2++Rr)=(X++Q')++z::([]++y::(Q2++Rr)):=by simp
  have g1:R.get CR ((X++Q')++z::([]++y::(Q2++Rr))) ((X++Q').length:Int)=z:=Zpl (r:=CR) _ _ _ _ rfl;have g2:=Zl7 (X++Q') z y [] (Q2++Rr) _ rfl;have r1:=Zsb (X++Q') z ([]++y::(Q2++Rr)) _ rfl;have r2:=ZlF (X++Q') z y [] (Q2++Rr) _ rfl;have s1:=ZvC (X++Q') z y [] (Q2++Rr) _ _ rfl rfl;refine⟨((X.length:Int),((X++Q').length:Int),(X++Q')++y::([]++z::(Q2++Rr)),()),?_,⟨Q',z::Q2,by simp,by simp⟩,by simp;omega⟩;rw[e0];rw[w2] at w1 d|-;simp only[ZjU,RT.val,d,w1,g1,g2,r1,r2,s1,Zo8,Ya,Yf,Yj,Yi,Yw]
variable {P Q:List Cell}
theorem Zza {x:Cell} (hs:Srt (P++Q)) (hP:∀y∈P,y.1<x.1) (hQ:∀y∈Q,x.1<=y.1):isort (x::(P++Q))=P++x::Q:=by
 have h:=Yah.1 hs;refine Zhj (Yah.2 ⟨h.1,YB.2 ⟨hQ,h.2.1⟩,λa ha b hb=> ?_⟩) ?_
 ·have:=hP a ha;rcases Yx.1 hb with rfl|hb
  ·omega
  ·have:=hQ b hb;omega
 ·have:=Sm.swap (u:=P) (v:=[x]) (λa ha b hb=>by simp at hb;subst hb;have:=hP a ha;omega) [] Q;simpa using this
theorem ZvG (hs:Srt (P++Q)) (hP:∀a∈P,a.1<=y.1) (hQ:∀a∈Q,y.1<a.1):isort (P++Q++[y])=P++y::Q:=by
 have h:=Yah.1 hs;refine Zhj (Yah.2 ⟨h.1,YB.2 ⟨λb hb=>by have:=hQ b hb;omega,h.2.1⟩,λa ha b hb=> ?_⟩) ?_
 ·have:=hP a ha;rcases Yx.1 hb with rfl|hb
  ·omega
  ·have:=hQ b hb;omega
 ·have:=(Sm.swap (u:=Q) (v:=[y]) (λa ha b hb=>by simp at hb;subst hb;have:=hQ a ha;omega) P []).symm;simpa using this
theorem ZaP {α:Type} (l:List α) (i:Nat) (h:i<l.length):Zf (i:Int) l.length=true:=ZF.2 (by omega)
theorem Zik (i:Nat) (h:i<=4611686018427387904):IntKind.wrap .i64 ((i:Int)+1)=((i+1:Nat):Int):=by rw[wrap_i64 _ (by omega) (by omega)];simp
theorem wsub (i j:Nat) (h:i<=4611686018427387904) (hj:j<=i):IntKind.wrap .i64 ((i:Int)-(j:Int))=((i-j:Nat):Int):=by rw[wrap_i64 _ (by omega) (by omega)];omega
theorem wadd (i j:Nat) (h:i+j<=4611686018427387904):IntKind.wrap .i64 ((i:Int)+(j:Int))=((i+j:Nat):Int):=by rw[wrap_i64 _ (by omega) (by omega)];simp
theorem ZUv (k:Int) (X V Y:List Cell) (x:Cell) (hV:0<V.length) (sV:Srt V) (hm:(X++[x]++V++Y).length<=most):
  (ZrK k (X++[x]++V++Y) X.length (X.length+1:Nat) (X.length+1+V.length:Nat)).val=some (X++isort ([x]++V)++Y):=by
 have hms:=mst;have hlen:(X++[x]++V++Y).length=X.length+1+V.length+Y.length:=by simp;omega
 have hm':=hm;rw[hlen] at hm';have ga:el (X++[x]++V++Y) X.length=x:=by simp[el]
 have gv:∀i,i<V.length->el (X++[x]++V++Y) (X.length+1+i)=el V i:=λi hi=>by have:=ZFI (X++[x]) V Y i hi;simpa using this
 obtain⟨i,i1,i2,hrun,q1,q2⟩:=ZO8 (T:=ZjX) (fuel:=λa_1=>Int.toNat (a_1.2.2.1-a_1.2.1)+1) (λi j=>((X.length:Int),(i:Int),(j:Int),X++[x]++V++Y,()))
  (λh=>decide ((el (X++[x]++V++Y) h).1<x.1)) (X.length+1) (X.length+1+V.length) (by omega) (by simp only;omega)
  (λi j h1 h2 h3=>by
   have d:decide ((i:Int)<(j:Int))=true:=by simpa using h2
   have r1:=ZaP (X++[x]++V++Y) ((i+j)/2) (by rw[hlen];omega);have r2:=ZaP (X++[x]++V++Y) X.length (by rw[hlen];omega);simp only[ZjX,RT.val,d,Zpj i j (by omega),r1,r2,Yf,Yi,Ya,ZcX,ZlA,ga,Zik ((i+j)/2) (by omega)]
   cases decide ((el (X++[x]++V++Y) ((i+j)/2)).1<x.1)<;>rfl)
  (λi h1 h2=>by
   have d:decide ((i:Int)<(i:Int))=false:=by simp
   simp only[ZjX,RT.val,d,Yb])
 obtain⟨p,rfl⟩:∃p,i=X.length+1+p:=⟨i-(X.length+1),by omega⟩;have hp:p<=V.length:=by omega
 have hP:∀y∈V.take p,y.1<x.1:=λy hy=>by
  obtain⟨j,h1,h2,rfl⟩:=Zl5 hy;rcases q1 with q1|q1
  ·omega
  ·rw[show X.length+1+p-1=X.length+1+(p-1) by omega,gv (p-1) (by omega)] at q1;have:=ZkZ sV (i:=j) (j:=p-1) (by omega) (by omega);simp only[Yk] at q1;omega
 have hQ:∀y∈V.drop p,x.1<=y.1:=λy hy=>by
  obtain⟨j,h1,h2,rfl⟩:=Zjg hy;rcases q2 with q2|q2
  ·omega
  ·rw[gv p (by omega)] at q2;have:=ZkZ sV (i:=p) (j:=j) h1 h2;simp only[Yaa] at q2;omega
 have hV2:V.take p++V.drop p=V:=Yak p V;have hpl:(V.take p).length=p:=by simp;omega
 obtain⟨r,hr,hr2⟩:=ZXp X (V.take p) (V.drop p++Y) x (by
  have:X++x::(V.take p++(V.drop p++Y))=X++[x]++V++Y:=by rw[<-List.append_assoc (V.take p),hV2];simp
  rw[this];exact hm)
 rw[hpl,show X.length+p+1=X.length+1+p by omega,show X++x::(V.take p++(V.drop p++Y))=X++[x]++V++Y by rw[<-List.append_assoc (V.take p),hV2];simp] at hr;have w1:(IntKind.wrap .i64 (((X.length+1:Nat):Int)-(X.length:Int))==1)=true:=by rw[wsub _ _ (by omega) (by omega)];simp
 have hfin:X++V.take p++x::(V.drop p++Y)=X++isort ([x]++V)++Y:=by have:=Zza (x:=x) (P:=V.take p) (Q:=V.drop p) (by rw[hV2];exact sV) hP hQ;rw[hV2] at this;rw[show [x]++V=x::V from rfl,this];simp
 have hrun':runF false ZjX (λa_1=>Int.toNat (a_1.2.2.1-a_1.2.1)+1) ((X.length:Int),((X.length+1:Nat):Int),((X.length+1+V.length:Nat):Int),X++[x]++V++Y,())=some (false,((X.length:Int),((X.length+1+p:Nat):Int),((X.length+1+p:Nat):Int),X++[x]++V++Y,())):=hrun;simp only[ZrK,ZdC,RT.val,w1,Yf,Yi,hrun',okB,getO,Ya,hr,hr2,hfin]
theorem ZPQ (k:Int) (X U Y:List Cell) (y:Cell) (hU:1<U.length) (sU:Srt U) (hm:(X++U++[y]++Y).length<=most):
  (ZrK k (X++U++[y]++Y) X.length (X.length+U.length:Nat) (X.length+U.length+1:Nat)).val=some (X++isort (U++[y])++Y):=by
 have hms:=mst;have hlen:(X++U++[y]++Y).length=X.length+U.length+1+Y.length:=by simp;omega
 have hm':=hm;rw[hlen] at hm';have ga:el (X++U++[y]++Y) (X.length+U.length)=y:=by simp[el]
 have gv:∀i,i<U.length->el (X++U++[y]++Y) (X.length+i)=el U i:=λi hi=>by have:=ZFI X U ([y]++Y) i hi;simpa using this
 obtain⟨i,i1,i2,hrun,q1,q2⟩:=ZO8 (T:=ZjV) (fuel:=λa_1=>Int.toNat (a_1.2.2.1-a_1.2.1)+1) (λi j=>(((X.length+U.length:Nat):Int),(i:Int),(j:Int),X++U++[y]++Y,()))
  (λh=>decide ((el (X++U++[y]++Y) h).1<=y.1)) X.length (X.length+U.length) (by omega) (by simp only;omega)
  (λi j h1 h2 h3=>by
   have d:decide ((i:Int)<(j:Int))=true:=by simpa using h2
   have r1:=ZaP (X++U++[y]++Y) ((i+j)/2) (by rw[hlen];omega);have r2:=ZaP (X++U++[y]++Y) (X.length+U.length) (by rw[hlen];omega);simp only[ZjV,RT.val,d,Zpj i j (by omega),r1,r2,Yf,Yi,Yj,Ya,ZcX,Zvw,ga,Zik ((i+j)/2) (by omega)]
   cases decide ((el (X++U++[y]++Y) ((i+j)/2)).1<=y.1)<;>rfl)
  (λi h1 h2=>by
   have d:decide ((i:Int)<(i:Int))=false:=by simp
   simp only[ZjV,RT.val,d,Yb])
 obtain⟨p,rfl⟩:∃p,i=X.length+p:=⟨i-X.length,by omega⟩;have hp:p<=U.length:=by omega
 have hP:∀a∈U.take p,a.1<=y.1:=λa ha=>by
  obtain⟨j,h1,h2,rfl⟩:=Zl5 ha;rcases q1 with q1|q1
  ·omega
  ·rw[show X.length+p-1=X.length+(p-1) by omega,gv (p-1) (by omega)] at q1;have:=ZkZ sU (i:=j) (j:=p-1) (by omega) (by omega);simp only[Yk] at q1;omega
 have hQ:∀a∈U.drop p,y.1<a.1:=λa ha=>by
  obtain⟨j,h1,h2,rfl⟩:=Zjg ha;rcases q2 with q2|q2
  ·omega
  ·rw[gv p (by omega)] at q2;have:=ZkZ sU (i:=p) (j:=j) h1 h2;simp only[Yaa] at q2;omega
 have hU2:U.take p++U.drop p=U:=Yak p U;have hql:(U.drop p).length=U.length-p:=by simp
 have hpl:(X++U.take p).length=X.length+p:=by simp;omega
 have e0:(X++U.take p)++(U.drop p++y::Y)=X++U++[y]++Y:=by
  have:(X++U.take p)++(U.drop p++y::Y)=X++((U.take p++U.drop p)++y::Y):=by simp only[Yp]
  rw[this,hU2];simp
 obtain⟨r,hr,hr2⟩:=ZXq (X++U.take p) (U.drop p) Y y (by rw[e0];exact hm);rw[e0,hpl,hql,show X.length+p+(U.length-p)=X.length+U.length by omega] at hr;have w0:(IntKind.wrap .i64 (((X.length+U.length:Nat):Int)-(X.length:Int))==1)=false:=by rw[wsub _ _ (by omega) (by omega)];simp;omega
 have w1:(IntKind.wrap .i64 (((X.length+U.length+1:Nat):Int)-((X.length+U.length:Nat):Int))==1)=true:=by rw[wsub _ _ (by omega) (by omega)];simp
 have hfin:X++U.take p++y::(U.drop p++Y)=X++isort (U++[y])++Y:=by have:=ZvG (y:=y) (P:=U.take p) (Q:=U.drop p) (by rw[hU2];exact sU) hP hQ;rw[hU2] at this;rw[this];simp
 have hrun':runF false ZjV (λa_1=>Int.toNat (a_1.2.2.1-a_1.2.1)+1) (((X.length+U.length:Nat):Int),(X.length:Int),((X.length+U.length:Nat):Int),X++U++[y]++Y,())=some (false,(((X.length+U.length:Nat):Int),((X.length+p:Nat):Int),((X.length+p:Nat):Int),X++U++[y]++Y,())):=hrun;simp only[ZrK,ZdC,RT.val,w0,w1,Yf,Yl,Yv,Yi,hrun',okB,getO,Ya,Yb,hr,hr2,hfin]
theorem Zes (l:List Cell):(isort l).length=l.length:=by
 have hi:∀(x:Cell) (l:List Cell),(ins x l).length=l.length+1:=λx l=>by
  induction l with
  |nil=>rfl
  |cons y l ih=>simp only[ins];split<;>simp[ih]
 have:∀(l acc:List Cell),(l.foldl (λa x=>ins x a) acc).length=acc.length+l.length:=by
  intro l
  induction l with
  |nil=>intro acc;simp
  |cons a l ih=>intro acc;rw[List.foldl_cons,ih,hi];simp;omega
 simp[isort,this]
theorem sub3 (X U V Y:List Cell):((X++U++V++Y).drop X.length).take ((X.length+U.length)-X.length)=U/\((X++U++V++Y).drop (X.length+U.length)).take ((X.length+U.length+V.length)-(X.length+U.length))=V:=by
 constructor
 ·have:X++U++V++Y=X++(U++(V++Y)):=by simp
  rw[this,Yag rfl,Yat (by omega)]
 ·have:X++U++V++Y=(X++U)++(V++Y):=by simp
  rw[this,Yag (by simp),Yat (by omega)]
theorem ZDi (X U V Y:List Cell) (hU:0<U.length) (hV:0<V.length) (hm:(X++U++V++Y).length<=most):ZiA (X++U++V++Y) X.length (X.length+U.length:Nat) (X.length+U.length+V.length:Nat)=true:=by simp only[ZiA,Yc,Yk,YF];simp only[Yd] at hm|-;omega
theorem ZC4 (k:Int) (X U V Y:List Cell) (hU:0<U.length) (hV:0<V.length) (sU:Srt U) (sV:Srt V) (hk:((U.length+V.length:Nat):Int)<=k) (hm:(X++U++V++Y).length<=most):Ziv k (X++U++V++Y) X.length (X.length+U.length:Nat) (X.length+U.length+V.length:Nat)=true:=by obtain⟨s1,s2⟩:=sub3 X U V Y;simp only[Ziv,ZDi X U V Y hU hV hm,Int.toNat_natCast,s1,s2,Zft.2 sU,Zft.2 sV,YR,YI,Yk];omega
theorem ZmO (X L Y:List Cell) (b:Nat) (hb:b=X.length+L.length):ZdO (X++L++Y) X.length b=X++isort L++Y:=by subst hb;exact ZrW X L Y
theorem ZUx (k:Int) (X U V Y:List Cell) (hU:1<U.length) (hV:1<V.length) (sU:Srt U) (sV:Srt V) (hk:((U.length+V.length:Nat):Int)<=k+1) (hm:(X++U++V++Y).length<=most):
  (ZrK k (X++U++V++Y) X.length (X.length+U.length:Nat) (X.length+U.length+V.length:Nat)).val=some (X++isort (U++V)++Y):=by
 have hms:=mst;have hlen:(X++U++V++Y).length=X.length+U.length+V.length+Y.length:=by simp;omega
 have hm':=hm;rw[hlen] at hm';have gu:∀i,i<U.length->el (X++U++V++Y) (X.length+i)=el U i:=λi hi=>by have:=ZFI X U (V++Y) i hi;simpa using this
 have gv:∀i,i<V.length->el (X++U++V++Y) (X.length+U.length+i)=el V i:=λi hi=>by have:=ZFI (X++U) V Y i hi;simpa using this
 obtain⟨M,hM⟩:∃M,M=(X.length+(X.length+U.length+V.length))/2:=⟨_,rfl⟩;obtain⟨lo,hi,hlo,hlh,hb1,hb2,hb3,hb4,hb5⟩:∃lo hi:Nat,lo<=hi/\
   ((bif decide (((X.length+U.length:Nat):Int)>(M:Int)) then IntKind.wrap .i64 (((M+(X.length+U.length):Nat):Int)-((X.length+U.length+V.length:Nat):Int)) else (X.length:Int))=(lo:Int)/\(bif decide (((X.length+U.length:Nat):Int)>(M:Int)) then (M:Int) else ((X.length+U.length:Nat):Int))=(hi:Int))/\
   X.length<=lo/\hi<=X.length+U.length/\(∀c,lo<=c->c<hi->X.length+U.length<=M+(X.length+U.length)-1-c/\M+(X.length+U.length)-1-c<X.length+U.length+V.length)/\
   ((lo=X.length\/M+(X.length+U.length)-lo=X.length+U.length+V.length)/\(hi=X.length+U.length\/hi=M))/\M+(X.length+U.length)<=lo+(X.length+U.length+V.length):=by
  by_cases hc:M<X.length+U.length
  ·refine⟨M+(X.length+U.length)-(X.length+U.length+V.length),M,by omega,⟨?_,?_⟩,by omega,by omega,λc h1 h2=>by omega,⟨by omega,.inr rfl⟩,by omega⟩
   ·have:decide (((X.length+U.length:Nat):Int)>(M:Int))=true:=by simp;omega
    rw[this,Ya,wsub _ _ (by omega) (by omega)]
   ·have:decide (((X.length+U.length:Nat):Int)>(M:Int))=true:=by simp;omega
    rw[this,Ya]
  ·refine⟨X.length,X.length+U.length,by omega,⟨?_,?_⟩,by omega,by omega,λc h1 h2=>by omega,⟨.inl rfl,.inl rfl⟩,by omega⟩
   ·have:decide (((X.length+U.length:Nat):Int)>(M:Int))=false:=by simp;omega
    rw[this,Yb]
   ·have:decide (((X.length+U.length:Nat):Int)>(M:Int))=false:=by simp;omega
    rw[this,Yb]
 obtain⟨σ,i1,i2,hrun,q1,q2⟩:=ZO8 (T:=ZjT) (fuel:=λa_1=>Int.toNat (a_1.2.2.2.2.2.2.1-a_1.2.2.2.2.2.1)+1)
  (λi j=>((X.length:Int),((X.length+U.length:Nat):Int),((X.length+U.length+V.length:Nat):Int),(M:Int),((M+(X.length+U.length):Nat):Int),(i:Int),(j:Int),((M+(X.length+U.length)-1:Nat):Int),X++U++V++Y,()))
  (λh=>decide ((el (X++U++V++Y) h).1<=(el (X++U++V++Y) (M+(X.length+U.length)-1-h)).1)) lo hi hlo (by simp only;omega)
  (λi j h1 h2 h3=>by
   have d:decide ((i:Int)<(j:Int))=true:=by simpa using h2
   obtain⟨b1,b2⟩:=hb3 ((i+j)/2) (by omega) (by omega);have r1:=ZaP (X++U++V++Y) ((i+j)/2) (by rw[hlen];omega);have r2:=ZaP (X++U++V++Y) (M+(X.length+U.length)-1-(i+j)/2) (by rw[hlen];omega);simp only[ZjT,RT.val,d,Zpj i j (by omega),wsub (M+(X.length+U.length)-1) ((i+j)/2) (by omega) (by omega),r1,r2,Yf,Yi,Ya,ZcX,Zvw,Zik ((i+j)/2) (by omega)]
   cases decide ((el (X++U++V++Y) ((i+j)/2)).1<=(el (X++U++V++Y) (M+(X.length+U.length)-1-(i+j)/2)).1)<;>rfl)
  (λi h1 h2=>by
   have d:decide ((i:Int)<(i:Int))=false:=by simp
   simp only[ZjT,RT.val,d,Yb])
 obtain⟨n1,hn1⟩:∃n1,σ=X.length+n1:=⟨σ-X.length,by omega⟩;subst hn1;have hn1:n1<=U.length:=by omega
 have hbound:∀c,lo<=c->c<hi->True:=λ_ _ _=>trivial
 have hσM:X.length+n1<=M:=by
  rcases hb4.2 with e|e
  ·by_cases hc:M<X.length+U.length
   ·have:=hb3 lo;rcases Yad lo hi with h|h
    ·have:=hb3 (hi-1) (by omega) (by omega);omega
    ·omega
   ·omega
  ·omega
 obtain⟨u1,u2,hu,hu1⟩:=Zb9 U n1 hn1;have hv1le:M-(X.length+n1)<=V.length:=by omega
 obtain⟨v1,v2,hv,hv1⟩:=Zb9 V (M-(X.length+n1)) hv1le;subst hu hv;simp only[Yd] at*;have su:=Yah.1 sU;have sv:=Yah.1 sV;have eu:∀i,i<u1.length+u2.length->el (X++(u1++u2)++(v1++v2)++Y) (X.length+i)=el (u1++u2) i:=λi hi=>gu i (by omega)
 have ev:∀i,i<v1.length+v2.length->el (X++(u1++u2)++(v1++v2)++Y) (X.length+(u1.length+u2.length)+i)=el (v1++v2) i:=λi hi=>gv i (by omega)
 have mu1:∀x∈u1,∃i,i<u1.length/\x=el (u1++u2) i:=λx hx=>by obtain⟨i,h1,h2,e⟩:=Zl5 (V:=u1++u2) (p:=u1.length) (y:=x) (by simpa using hx);exact⟨i,h1,e⟩
 have mu2:∀x∈u2,∃i,u1.length<=i/\i<u1.length+u2.length/\x=el (u1++u2) i:=λx hx=>by obtain⟨i,h1,h2,e⟩:=Zjg (V:=u1++u2) (p:=u1.length) (y:=x) (by simpa using hx);exact⟨i,h1,by simpa using h2,e⟩
 have mv1:∀x∈v1,∃i,i<v1.length/\x=el (v1++v2) i:=λx hx=>by obtain⟨i,h1,h2,e⟩:=Zl5 (V:=v1++v2) (p:=v1.length) (y:=x) (by simpa using hx);exact⟨i,h1,e⟩
 have mv2:∀x∈v2,∃i,v1.length<=i/\i<v1.length+v2.length/\x=el (v1++v2) i:=λx hx=>by obtain⟨i,h1,h2,e⟩:=Zjg (V:=v1++v2) (p:=v1.length) (y:=x) (by simpa using hx);exact⟨i,h1,by simpa using h2,e⟩
 have h12:∀x∈u2,∀y∈v1,y.1<x.1:=λx hx y hy=>by
  obtain⟨i,a1,a2,rfl⟩:=mu2 x hx;obtain⟨j,b1,rfl⟩:=mv1 y hy;rcases q2 with e|e
  ·exfalso;rcases hb4.2 with f|f<;>omega
  ·have hidx:M+(X.length+(u1.length+u2.length))-1-(X.length+n1)=X.length+(u1.length+u2.length)+(v1.length-1):=by omega
   rw[eu n1 (by omega),hidx,ev (v1.length-1) (by omega)] at e;have c1:=ZkZ sU (i:=n1) (j:=i) (by omega) (by simp;omega);have c2:=ZkZ sV (i:=j) (j:=v1.length-1) (by omega) (by simp;omega);simp only[Yaa] at e;omega
 have h1:∀x∈u1,∀y∈v2,x.1<=y.1:=λx hx y hy=>by
  obtain⟨i,a1,rfl⟩:=mu1 x hx;obtain⟨j,b1,b2,rfl⟩:=mv2 y hy;rcases q1 with e|e
  ·exfalso;rcases hb4.1 with f|f<;>omega
  ·have hidx:M+(X.length+(u1.length+u2.length))-1-(X.length+n1-1)=X.length+(u1.length+u2.length)+v1.length:=by omega
   rw[hidx,show X.length+n1-1=X.length+(n1-1) by omega,eu (n1-1) (by omega),ev v1.length (by omega)] at e;have c1:=ZkZ sU (i:=i) (j:=n1-1) (by omega) (by simp;omega);have c2:=ZkZ sV (i:=v1.length) (j:=j) (by omega) (by simp;omega);simp only[Yk] at e;omega
 have hlaw:=ZUw h12 h1 su.2.2 sv.2.2;have hMv:M=X.length+u1.length+v1.length:=by omega
 have w0:(IntKind.wrap .i64 (((X.length+(u1.length+u2.length):Nat):Int)-(X.length:Int))==1)=false:=by rw[wsub _ _ (by omega) (by omega)];simp;omega
 have w1:(IntKind.wrap .i64 (((X.length+(u1.length+u2.length)+(v1.length+v2.length):Nat):Int)-((X.length+(u1.length+u2.length):Nat):Int))==1)=false:=by rw[wsub _ _ (by omega) (by omega)];simp;omega
 have w2:IntKind.wrap .i64 (shrI .u64 (IntKind.wrap .u64 (IntKind.wrap .i64 ((X.length:Int)+((X.length+(u1.length+u2.length)+(v1.length+v2.length):Nat):Int)))) 1)=(M:Int):=by rw[Zpj _ _ (by omega),hM]
 have w3:IntKind.wrap .i64 ((M:Int)+((X.length+(u1.length+u2.length):Nat):Int))=((M+(X.length+(u1.length+u2.length)):Nat):Int):=wadd _ _ (by omega);have w4:IntKind.wrap .i64 (((M+(X.length+(u1.length+u2.length)):Nat):Int)-1)=((M+(X.length+(u1.length+u2.length))-1:Nat):Int):=by have:=wsub (M+(X.length+(u1.length+u2.length))) 1 (by omega) (by omega);simpa using this
 have w5:IntKind.wrap .i64 (((M+(X.length+(u1.length+u2.length)):Nat):Int)-((X.length+n1:Nat):Int))=((X.length+(u1.length+u2.length)+v1.length:Nat):Int):=by rw[wsub _ _ (by omega) (by omega)];omega
 have e0:X++(u1++u2)++(v1++v2)++Y=(X++u1)++u2++v1++(v2++Y):=by simp
 have hrot:(decide (((X.length+n1:Nat):Int)<((X.length+(u1.length+u2.length):Nat):Int))&&decide (((X.length+(u1.length+u2.length):Nat):Int)<((X.length+(u1.length+u2.length)+v1.length:Nat):Int)))=true->
   ZiA (X++(u1++u2)++(v1++v2)++Y) ((X.length+n1:Nat):Int) ((X.length+(u1.length+u2.length):Nat):Int) ((X.length+(u1.length+u2.length)+v1.length:Nat):Int)=true:=λh=>by simp only[Yc,Yk] at h;have:=ZDi (X++u1) u2 v1 (v2++Y) (by omega) (by omega) (by rw[<-e0];simp only[Yd];omega);rw[e0];simp only[Yd] at this;rwa [show X.length+u1.length+u2.length=X.length+(u1.length+u2.length) by omega,show X.length+u1.length=X.length+n1 by omega] at this
 have hrotX:(bif (decide (((X.length+n1:Nat):Int)<((X.length+(u1.length+u2.length):Nat):Int))&&decide (((X.length+(u1.length+u2.length):Nat):Int)<((X.length+(u1.length+u2.length)+v1.length:Nat):Int))) then rotX (X++(u1++u2)++(v1++v2)++Y) (X.length+n1) (X.length+(u1.length+u2.length)) (X.length+(u1.length+u2.length)+v1.length) else X++(u1++u2)++(v1++v2)++Y)=X++u1++v1++(u2++v2++Y):=by
  by_cases h:0<u2.length/\0<v1.length
  ·have:(decide (((X.length+n1:Nat):Int)<((X.length+(u1.length+u2.length):Nat):Int))&&decide (((X.length+(u1.length+u2.length):Nat):Int)<((X.length+(u1.length+u2.length)+v1.length:Nat):Int)))=true:=by simp only[Yc,Yk];omega
   rw[this,Ya,e0];have:=ZJ1 (X++u1) u2 v1 (v2++Y);simp only[Yd] at this;rw[show X.length+u1.length+u2.length=X.length+(u1.length+u2.length) by omega,show X.length+u1.length=X.length+n1 by omega] at this;rw[this];simp
  ·have:(decide (((X.length+n1:Nat):Int)<((X.length+(u1.length+u2.length):Nat):Int))&&decide (((X.length+(u1.length+u2.length):Nat):Int)<((X.length+(u1.length+u2.length)+v1.length:Nat):Int)))=false:=by rw[YK];simp only[ne_eq,Yc,Yk];omega
   rw[this,Yb];rcases YaT u2.length with h2|h2
   ·rw[YX.1 h2];simp
   ·rw[YX.1 (show v1.length=0 by omega)];simp
 have hl2:(X++u1++v1++(u2++v2++Y)).length<=most:=by simp only[Yd];omega
 have hs1:(decide ((X.length:Int)<((X.length+n1:Nat):Int))&&decide (((X.length+n1:Nat):Int)<(M:Int)))=true->Ziv k (X++u1++v1++(u2++v2++Y)) (X.length:Int) ((X.length+n1:Nat):Int) (M:Int)=true:=λh=>by simp only[Yc,Yk] at h;have:=ZC4 k X u1 v1 (u2++v2++Y) (by omega) (by omega) su.1 sv.1 (by omega) hl2;rwa [<-hMv,show X.length+u1.length=X.length+n1 by omega] at this
 have hsX1:(bif (decide ((X.length:Int)<((X.length+n1:Nat):Int))&&decide (((X.length+n1:Nat):Int)<(M:Int))) then ZdO (X++u1++v1++(u2++v2++Y)) X.length M else X++u1++v1++(u2++v2++Y))=X++isort (u1++v1)++(u2++v2++Y):=by
  by_cases h:0<u1.length/\0<v1.length
  ·have:(decide ((X.length:Int)<((X.length+n1:Nat):Int))&&decide (((X.length+n1:Nat):Int)<(M:Int)))=true:=by simp only[Yc,Yk];omega
   rw[this,Ya,Yp X u1 v1];exact ZmO X (u1++v1) (u2++v2++Y) M (by simp;omega)
  ·have:(decide ((X.length:Int)<((X.length+n1:Nat):Int))&&decide (((X.length+n1:Nat):Int)<(M:Int)))=false:=by rw[YK];simp only[ne_eq,Yc,Yk];omega
   rw[this,Yb]
   have:isort (u1++v1)=u1++v1:=Zrh (by
    rcases YaT u1.length with h2|h2
    ·rw[YX.1 h2,List.nil_append];exact sv.1
    ·rw[YX.1 (show v1.length=0 by omega),YC];exact su.1)
   rw[this];simp
 have e3:X++isort (u1++v1)++(u2++v2++Y)=(X++isort (u1++v1))++u2++v2++Y:=by simp
 have hl3:(X++isort (u1++v1)).length=M:=by rw[Yd,Zes];simp;omega
 have hs2:(decide ((M:Int)<((X.length+(u1.length+u2.length)+v1.length:Nat):Int))&&decide (((X.length+(u1.length+u2.length)+v1.length:Nat):Int)<((X.length+(u1.length+u2.length)+(v1.length+v2.length):Nat):Int)))=true->Ziv k (X++isort (u1++v1)++(u2++v2++Y)) (M:Int) ((X.length+(u1.length+u2.length)+v1.length:Nat):Int) ((X.length+(u1.length+u2.length)+(v1.length+v2.length):Nat):Int)=true:=λh=>by simp only[Yc,Yk] at h;have:=ZC4 k (X++isort (u1++v1)) u2 v2 Y (by omega) (by omega) su.2.1 sv.2.1 (by omega) (by rw[<-e3];simp only[Yd,Zes];omega);rw[e3];rw[hl3] at this;rwa [show M+u2.length=X.length+(u1.length+u2.length)+v1.length by omega,show X.length+(u1.length+u2.length)+v1.length+v2.length=X.length+(u1.length+u2.length)+(v1.length+v2.length) by omega] at this
 have hsX2:(bif (decide ((M:Int)<((X.length+(u1.length+u2.length)+v1.length:Nat):Int))&&decide (((X.length+(u1.length+u2.length)+v1.length:Nat):Int)<((X.length+(u1.length+u2.length)+(v1.length+v2.length):Nat):Int))) then ZdO (X++isort (u1++v1)++(u2++v2++Y)) M (X.length+(u1.length+u2.length)+(v1.length+v2.length)) else X++isort (u1++v1)++(u2++v2++Y))=X++isort (u1++u2++(v1++v2))++Y:=by
  have hfin:isort (u1++u2++(v1++v2))=isort (u1++v1)++isort (u2++v2):=by rw[<-hlaw];simp
  rw[hfin];by_cases h:0<u2.length/\0<v2.length
  ·have:(decide ((M:Int)<((X.length+(u1.length+u2.length)+v1.length:Nat):Int))&&decide (((X.length+(u1.length+u2.length)+v1.length:Nat):Int)<((X.length+(u1.length+u2.length)+(v1.length+v2.length):Nat):Int)))=true:=by simp only[Yc,Yk];omega
   rw[this,Ya,e3,Yp (X++isort (u1++v1)) u2 v2];have:=ZmO (X++isort (u1++v1)) (u2++v2) Y (X.length+(u1.length+u2.length)+(v1.length+v2.length)) (by rw[hl3];simp;omega);rw[hl3] at this;rw[this];simp
  ·have:(decide ((M:Int)<((X.length+(u1.length+u2.length)+v1.length:Nat):Int))&&decide (((X.length+(u1.length+u2.length)+v1.length:Nat):Int)<((X.length+(u1.length+u2.length)+(v1.length+v2.length):Nat):Int)))=false:=by rw[YK];simp only[ne_eq,Yc,Yk];omega
   rw[this,Yb]
   have:isort (u2++v2)=u2++v2:=Zrh (by
    rcases YaT u2.length with h2|h2
    ·rw[YX.1 h2,List.nil_append];exact sv.2.1
    ·rw[YX.1 (show v2.length=0 by omega),YC];exact su.2.1)
   rw[this];simp
 have imp:∀{p q:Bool},(p=true->q=true)->(!p||q)=true:=fun {p q} h=>by
  cases p with
  |false=>rfl
  |true=>rw[h rfl];rfl
 have hst:runF false ZjT (λa_1=>Int.toNat (a_1.2.2.2.2.2.2.1-a_1.2.2.2.2.2.1)+1) ((X.length:Int),((X.length+(u1.length+u2.length):Nat):Int),((X.length+(u1.length+u2.length)+(v1.length+v2.length):Nat):Int),(M:Int),((M+(X.length+(u1.length+u2.length)):Nat):Int),(lo:Int),(hi:Int),((M+(X.length+(u1.length+u2.length))-1:Nat):Int),X++(u1++u2)++(v1++v2)++Y,())=some (false,((X.length:Int),((X.length+(u1.length+u2.length):Nat):Int),((X.length+(u1.length+u2.length)+(v1.length+v2.length):Nat):Int),(M:Int),((M+(X.length+(u1.length+u2.length)):Nat):Int),((X.length+n1:Nat):Int),((X.length+n1:Nat):Int),((M+(X.length+(u1.length+u2.length))-1:Nat):Int),X++(u1++u2)++(v1++v2)++Y,())):=hrun;simp only[ZrK,ZdC,RT.val,w0,w1,w2,w3,w4,Yl,Yv,Ya,Yb,hlh.1,hlh.2,hst,okB,getO,w5,imp hrot,Int.toNat_natCast,hrotX,imp hs1,hsX1,imp hs2,hsX2]
theorem ZUu (k:Int) (X U V Y:List Cell) (hU:0<U.length) (hV:0<V.length) (sU:Srt U) (sV:Srt V) (hk:((U.length+V.length:Nat):Int)<=k+1) (hm:(X++U++V++Y).length<=most):
  (ZrK k (X++U++V++Y) X.length (X.length+U.length:Nat) (X.length+U.length+V.length:Nat)).val=some (X++isort (U++V)++Y):=by
 by_cases h1:U.length=1
 ·obtain⟨x,rfl⟩:=List.length_eq_one_iff.1 h1;exact ZUv k X V Y x hV sV hm
 ·by_cases h2:V.length=1
  ·obtain⟨y,rfl⟩:=List.length_eq_one_iff.1 h2;exact ZPQ k X U Y y (by omega) sU hm
  ·exact ZUx k X U V Y (by omega) (by omega) sU sV hk hm
theorem ZC3:∀n:Nat,Zb Tryz.prog 305 (ZUy (n:Int))
 |0=>Zb.st_never Tryz.call305 λa=>by
  obtain⟨l,a,m,b⟩:=a;have:Ziv ((0:Nat):Int) l a m b=false:=by
   cases h:Ziv ((0:Nat):Int) l a m b with
   |false=>rfl
   |true=>
    exfalso;simp only[Ziv,ZiA,Yc,Yk,YF] at h;obtain⟨⟨⟨⟨⟨⟨⟨p1,p2⟩,p3⟩,p4⟩,p5⟩,p6⟩,p7⟩,p8⟩:=h;omega
  simp only[this]
 |n+1=>ZPB (n:Int) (ZC3 n) λa h1 h2 hp=>by
  obtain⟨l,a,m,b⟩:=a;have hp:Ziv ((n+1:Nat):Int) l a m b=true:=by cases h:Ziv ((n+1:Nat):Int) l a m b<;>simp_all
  simp only[Ziv,ZiA,Yc,Yk,YF] at hp;obtain⟨⟨⟨⟨⟨⟨⟨p1,p2⟩,p3⟩,p4⟩,p5⟩,p6⟩,p7⟩,p8⟩:=hp;obtain⟨a,rfl⟩:=Y2 p1;obtain⟨m,rfl⟩:=Y2 (show (0:Int)<=m by omega);obtain⟨b,rfl⟩:=Y2 (show (0:Int)<=b by omega);obtain⟨X,U,V,Y,rfl,rfl,rfl,rfl⟩:=ZS8 l a m b (by omega) (by omega) (by omega);obtain⟨s1,s2⟩:=sub3 X U V Y;simp only[Int.toNat_natCast,s1,s2] at p7 p8;have:=ZUu (n:Int) X U V Y (by omega) (by omega) (Zft.1 p7) (Zft.1 p8) (by omega) p5;simp only[Int.toNat_natCast];rw[this,Yp X U V,ZmO X (U++V) Y _ (by simp;omega)]
def Zgc (l:List Cell) (a m b:Int):Bool:=ZiA l a m b&&srtB ((l.drop a.toNat).take (m.toNat-a.toNat))&&srtB ((l.drop m.toNat).take (b.toNat-m.toNat))
def Zqh:En:=stE ZcN ZrM 160 ZyW (λa=>some (Zgc a.1 a.2.1 a.2.2.1 a.2.2.2)) (λa=>ZdO a.1 a.2.1.toNat a.2.2.2.toNat)
theorem Zly:Zb Tryz.prog 305 Zqh:=Zgf (ZC3 most) λa h1 h2 hp=>⟨by
 obtain⟨l,a,m,b⟩:=a;have hp:Zgc l a m b=true:=by cases h:Zgc l a m b<;>simp_all
 simp only[Zgc,Yc] at hp;have hk:decide (b-a<=((most:Nat):Int))=true:=by
  have:=hp.1.1;simp only[ZiA,Yc,Yk,YF] at this;obtain⟨⟨⟨⟨p1,p2⟩,p3⟩,p4⟩,p5⟩:=this;refine Yz ?_;have key:∀(a b:Int) (n:Nat),0<=a->b<=(n:Int)->n<=most->b-a<=((most:Nat):Int):=by intros;omega
  exact key a b _ p1 p4 p5
 simp only[Ziv,hp.1.1,hp.1.2,hp.2,hk,Y6];simp,rfl⟩
abbrev ZyY:List Sh:=[So Kc]
def ZPH:LS:={n:=63,Sl:=[(0,.tip 0),(1,.code (So Kc)),(2,.fix (A.clo 160 [])),(6,.code (So Kc)),(7,.code (So Kc)),(8,.code (So Kc))],Bx:=[],Sg:=[⟨R.Pq Kb Ka,75,false⟩],keep:=[0]}
def ZgW (a:QT8):RT (Option (Go1 (QT8))):=
 .br (decide (a.2.2.2.1<=a.1)) (.br (Zgl a.2.2.2.2.1 a.2.2.1 a.2.2.2.1) (Ls (Go1.cont (a.1,a.2.1,a.2.2.2.1,i64.wrap (a.2.2.2.1+a.2.1),ZdO a.2.2.2.2.1 (Int.toNat a.2.2.1) (Int.toNat a.2.2.2.1),PUnit.unit))) Ln) (Ls (Go1.brk (a.1,a.2.1,a.2.2.1,a.2.2.2.1,a.2.2.2.2.1,PUnit.unit)))
def ZCV:Ora:=Zbr false ZPH ZgW (λa=>(a.1-a.2.2.2.1).toNat+2)
theorem ZF7:Za1 (envX prog [(304,Zql),(305,Zqh),(160,ZbS)] [] 1023 8) (.block 0 (.loop (Z7 Tryz.f234.body 0))) ZCV:=
 loopP ⟨ZlB,Zly,Zay,Tv⟩
def ZPG:LS:={n:=63,Sl:=[(0,.tip 0),(1,.code (So Kc)),(2,.fix (A.clo 160 [])),(6,.code (So Kc)),(7,.code (So Kc)),(8,.code (So Kc))],Bx:=[],Sg:=[⟨R.Pq Kb Ka,75,false⟩],keep:=[0]}
def ZgV (a:QT8):RT (Option (Go1 (QT8))):=
 .br (decide (a.2.2.2.1<=a.1)) (.br (Zgc a.2.2.2.2.1 a.2.2.1 (i64.wrap (a.2.2.1+a.2.1)) a.2.2.2.1) (Ls (Go1.cont (a.1,a.2.1,a.2.2.2.1,i64.wrap (a.2.2.2.1+i64.wrap (2*a.2.1)),ZdO a.2.2.2.2.1 (Int.toNat a.2.2.1) (Int.toNat a.2.2.2.1),PUnit.unit))) Ln) (Ls (Go1.brk (a.1,a.2.1,a.2.2.1,a.2.2.2.1,a.2.2.2.2.1,PUnit.unit)))
def Zlz:Ora:=Zbr false ZPG ZgV (λa=>(a.1-a.2.2.2.1).toNat+2)
theorem Zqi:Za1 (envX prog [(304,Zql),(305,Zqh),(160,ZbS)] [] 1023 8) (.block 4 (.loop (Z7 Tryz.f234.body 4))) Zlz:=
 loopP ⟨ZlB,Zly,Zay,Tv⟩
def ZPF:LS:={n:=63,Sl:=[(0,.tip 0),(1,.code (So Kc)),(2,.fix (A.clo 160 [])),(6,.code (So Kc))],Bx:=[],Sg:=[⟨R.Pq Kb Ka,75,false⟩],keep:=[0]}
def Zfp (a:QT12):RT (Option (Go1 (QT12))):=
 let x1:QT8:=(a.1,a.2.1,0,i64.wrap (2*a.2.1),a.2.2.1,())
 let x2:=runF false ZgV (λa_1=>Int.toNat (a_1.1-a_1.2.2.2.1)+2) x1
 let x3:=okB x2
 let x4:QT8:=(getO (false,x1) x2).2
 let x5:=x4.2
 let x6:=x5.2
 let x7:=x6.1
 let x8:=x5.1
 let x9:=i64.wrap (x7+x8)
 let x10:=x4.1
 let x11:=decide (x9<x10)
 let x12:=x6.2.2.1
 .br (decide (a.2.1<a.1)) (.br (!x3||(!x11||Zgc x12 x7 x9 x10)) (.br (x3) (Ls (Go1.cont (x10,i64.wrap (x8*2),bif x11 then ZdO x12 (Int.toNat x7) (Int.toNat x10) else x12,PUnit.unit))) Ln) Ln) (Ls (Go1.brk (a.1,a.2.1,a.2.2.1,PUnit.unit)))
def ZCU:Ora:=Zbr false ZPF Zfp (λa=>(a.1-a.2.1).toNat+1)
theorem ZF6:Za1 (envX prog [(304,Zql),(305,Zqh),(160,ZbS)] [(4,Zlz)] 1023 8) (.block 2 (.loop (Z7 Tryz.f234.body 2))) ZCU:=
 Zjl (ZbD (l:=[(304,Zql),(305,Zqh),(160,ZbS)]) ⟨ZlB,Zly,Zay,Tv⟩ [(4,Zlz)] 1023 8) (Zh8 (by kernel_rfl) (by kernel_rfl) ⟨Zqi,Tv⟩) (λa=>by kernel_rfl)
def Zvt (s:List (Int×Int)) (n:Int):RT (Option (List (Int×Int))):=
 let x1:QT8:=(n,20,0,20,Stg.l (ZdC ZcN ZrM s),())
 let x2:=runF false ZgW (λa=>Int.toNat (a.1-a.2.2.2.1)+2) x1
 let x3:QT8:=(getO (false,x1) x2).2
 let x4:=x3.2
 let x5:=x4.2
 let x6:=x5.2.2.1
 let x7:=x5.1
 let x8:=x3.1
 let x9:QT12:=(x8,x4.1,ZdO x6 (Int.toNat x7) (Int.toNat x8),())
 let x10:=runF false Zfp (λa=>Int.toNat (a.1-a.2.1)+1) x9
 .br (okB x2) (.br (Zgl x6 x7 x8) (.br (okB x10) (Ls (getO (false,x9) x10).2.2.2.1) Ln) Ln) Ln
def ZXf (s:List (Int×Int)) (n:Int):List (Int×Int):=getO [] (Zvt s n).val
def ZSI (s:List (Int×Int)) (n:Int):Bool:=okB (Zvt s n).val
def ZXe:En:=stE ZcN ZrM 160 ZyY (λa=>some (ZSI a.1 a.2)) (λa=>ZXf a.1 a.2)
theorem ZPE:Zb prog 234 ZXe:=
 ZmN (P:=prog) (n:=1023) (k:=8) (l:=[(304,Zql),(305,Zqh),(160,ZbS)]) (ol:=[(0,ZCV),(4,Zlz),(2,ZCU)]) ⟨ZlB,Zly,Zay,Tv⟩ Tryz.func234 rfl (by kernel_rfl) Tryz.call234 ⟨ZF7,Zqi,ZF6,Tv⟩ (r:=ZcN) (T:=ZrM) (g0:=160) (ts:=ZyY) (t:=λa=>Zvt a.1 a.2) (λa=>by kernel_rfl)
def sb (s:List Cell) (c d:Nat):List Cell:=(s.drop c).take (d-c)
theorem ZJQ (X T:List Cell) (c d:Nat) (h:d<=X.length):sb (X++T) c d=sb X c d:=by
 unfold sb;by_cases hc:c<=X.length
 ·rw[List.drop_append_of_le_length hc,List.take_append_of_le_length (by simp;omega)]
 ·rw[show d-c=0 by omega];simp
theorem ZST (X L Y:List Cell):sb (X++L++Y) X.length (X.length+L.length)=L:=by unfold sb;rw[Yp,Yag rfl,Yat (by omega)]
theorem ZJP (X T:List Cell) (c d:Nat) (h:X.length<=c):sb (X++T) c d=sb T (c-X.length) (d-X.length):=by unfold sb;rw[List.drop_append,Y4 h,List.nil_append];congr 1;omega
theorem Zfu (s:List Cell) (a b:Nat) (h1:a<=b) (h2:b<=s.length):
  (ZdO s a b).length=s.length/\Sm (ZdO s a b) s/\(∀c d,d<=a->sb (ZdO s a b) c d=sb s c d)/\(∀c d,b<=c->sb (ZdO s a b) c d=sb s c d)/\sb (ZdO s a b) a b=isort (sb s a b):=by
 obtain⟨X,L,Y,rfl,rfl,rfl⟩:=ZS9 s a b h1 h2;rw[ZrW,ZST];refine⟨by simp[Zes],((Sm.refl X).app (ZfI L)).app (Sm.refl Y),λc d h=> ?_,λc d h=> ?_,?_⟩
 ·rw[Yp,Yp,ZJQ _ _ _ _ h,ZJQ _ _ _ _ h]
 ·rw[ZJP (X++isort L) Y c d (by simp[Zes];omega),ZJP (X++L) Y c d (by simp;omega)];simp[Zes]
 ·have:=ZST X (isort L) Y;rwa [Zes] at this
def Blk (w:Nat) (s:List Cell):Prop:=∀i,Srt (sb s (w*i) (w*i+w))
theorem Zr6 (s:List Cell) (c d:Nat) (h:s.length<=d):sb s c d=s.drop c:=by unfold sb;exact Y0 (by simp;omega)
theorem ZJO (s:List Cell) (c d:Nat) (h:s.length<=c):sb s c d=[]:=by unfold sb;rw[Y4 h];simp
theorem ZqF (s:List Cell) (a b:Nat) (h1:a<=b) (h2:b<=s.length) (hm:s.length<=most):Zgl s a b=true:=by simp only[Zgl,Yc,Yk,YF];omega
theorem loop0 (L:List Cell) (hm:L.length<=most):
  ∃r,runF false ZgW (λa=>Int.toNat (a.1-a.2.2.2.1)+2) ((L.length:Int),20,0,20,L,())=some r/\
   ∃(j:Nat) (s:List Cell),r.2=((L.length:Int),20,((20*j:Nat):Int),((20*j+20:Nat):Int),s,())/\20*j<=L.length/\L.length<20*j+20/\s.length=L.length/\Sm s L/\∀i,i<j->Srt (sb s (20*i) (20*i+20)):=by
 have hms:=mst;refine ZI (fl:=false) (t:=ZgW) (fuel:=λa=>Int.toNat (a.1-a.2.2.2.1)+2)
  (I:=λa=>∃(j:Nat) (s:List Cell),a=((L.length:Int),20,((20*j:Nat):Int),((20*j+20:Nat):Int),s,())/\20*j<=L.length/\s.length=L.length/\Sm s L/\∀i,i<j->Srt (sb s (20*i) (20*i+20)))
  (m:=λa=>Int.toNat (a.1-a.2.2.2.1+1)) (R:=λr=>∃(j:Nat) (s:List Cell),r.2=((L.length:Int),20,((20*j:Nat):Int),((20*j+20:Nat):Int),s,())/\20*j<=L.length/\L.length<20*j+20/\s.length=L.length/\Sm s L/\∀i,i<j->Srt (sb s (20*i) (20*i+20)))
  (λa hi=> ?_) _ ⟨0,L,by simp,by omega,rfl,Sm.refl L,λi h=>by omega⟩ (by simp only;omega)
 obtain⟨j,s,rfl,h1,h2,h3,h4⟩:=hi;by_cases hb:20*j+20<=L.length
 ·left;have d:decide (((20*j+20:Nat):Int)<=(L.length:Int))=true:=by simp;omega
  have hr:=ZqF s (20*j) (20*j+20) (by omega) (by omega) (by omega);have w:IntKind.wrap .i64 (((20*j+20:Nat):Int)+20)=((20*(j+1)+20:Nat):Int):=by rw[wrap_i64 _ (by omega) (by omega)];omega
  obtain⟨f1,f2,f3,f4,f5⟩:=Zfu s (20*j) (20*j+20) (by omega) (by omega);refine⟨((L.length:Int),20,((20*j+20:Nat):Int),((20*(j+1)+20:Nat):Int),ZdO s (20*j) (20*j+20),()),?_,⟨j+1,_,rfl,by omega,by omega,f2.trans h3,λi hi=> ?_⟩,by simp only;omega⟩
  ·simp only[ZgW,RT.val,d,hr,Ya,w,Int.toNat_natCast]
  ·by_cases hij:i=j
   ·subst hij;rw[f5];exact Zb1 _
   ·rw[f3 _ _ (by omega)];exact h4 i (by omega)
 ·right;left;have d:decide (((20*j+20:Nat):Int)<=(L.length:Int))=false:=by simp;omega
  exact⟨_,by simp only[ZgW,RT.val,d,Yb],j,s,rfl,h1,by omega,h2,h3,h4⟩
theorem ZvB (s:List Cell) (a m b:Nat) (h1:a<m) (h2:m<b) (h3:b<=s.length) (hm:s.length<=most) (k1:Srt (sb s a m)) (k2:Srt (sb s m b)):Zgc s a m b=true:=by simp only[Zgc,Int.toNat_natCast,Yc];refine⟨⟨?_,Zft.2 k1⟩,Zft.2 k2⟩;simp only[ZiA,Yc,Yk,YF];omega
theorem loop1 (L:List Cell) (w n:Nat) (hn:n=L.length) (hw:0<w) (hw2:w<=2*most) (hm:L.length<=most) (hB:Blk w L):
  ∃r,runF false ZgV (λa=>Int.toNat (a.1-a.2.2.2.1)+2) ((n:Int),(w:Int),0,((2*w:Nat):Int),L,())=some r/\
   ∃(j:Nat) (s:List Cell),r.2=((n:Int),(w:Int),((2*w*j:Nat):Int),((2*w*j+2*w:Nat):Int),s,())/\2*w*j<=n/\n<2*w*j+2*w/\s.length=n/\Sm s L/\(∀i,i<j->Srt (sb s (2*w*i) (2*w*i+2*w)))/\∀i,2*w*j<=w*i->Srt (sb s (w*i) (w*i+w)):=by
 have hms:=mst;refine ZI (fl:=false) (t:=ZgV) (fuel:=λa=>Int.toNat (a.1-a.2.2.2.1)+2)
  (I:=λa=>∃(j:Nat) (s:List Cell),a=((n:Int),(w:Int),((2*w*j:Nat):Int),((2*w*j+2*w:Nat):Int),s,())/\2*w*j<=n/\s.length=n/\Sm s L/\(∀i,i<j->Srt (sb s (2*w*i) (2*w*i+2*w)))/\∀i,2*w*j<=w*i->Srt (sb s (w*i) (w*i+w)))
  (m:=λa=>Int.toNat (a.1-a.2.2.2.1+1)) (R:=λr=>∃(j:Nat) (s:List Cell),r.2=((n:Int),(w:Int),((2*w*j:Nat):Int),((2*w*j+2*w:Nat):Int),s,())/\2*w*j<=n/\n<2*w*j+2*w/\s.length=n/\Sm s L/\(∀i,i<j->Srt (sb s (2*w*i) (2*w*i+2*w)))/\∀i,2*w*j<=w*i->Srt (sb s (w*i) (w*i+w)))
  (λa hi=> ?_) _ ⟨0,L,by simp,by omega,hn.symm,Sm.refl L,λi h=>by omega,λi _=>hB i⟩ (by simp only;omega)
 obtain⟨j,s,rfl,h1,h2,h3,h4,h5⟩:=hi;have q1:2*w*(j+1)=2*w*j+2*w:=by rw[Nat.mul_add];omega
 by_cases hb:2*w*j+2*w<=n
 ·left;have d:decide (((2*w*j+2*w:Nat):Int)<=(n:Int))=true:=Yz (Int.ofNat_le.2 hb);have e1:IntKind.wrap .i64 (((2*w*j:Nat):Int)+(w:Int))=((2*w*j+w:Nat):Int):=wadd _ _ (by omega);have e2:IntKind.wrap .i64 (2*(w:Int))=((2*w:Nat):Int):=by rw[wrap_i64 _ (by omega) (by omega)];omega
  have e3:IntKind.wrap .i64 (((2*w*j+2*w:Nat):Int)+((2*w:Nat):Int))=((2*w*(j+1)+2*w:Nat):Int):=by rw[wadd _ _ (by omega),q1]
  have hr:=ZvB s (2*w*j) (2*w*j+w) (2*w*j+2*w) (by omega) (by omega) (by omega) (by omega)
   (by have:=h5 (2*j) (by rw[show w*(2*j)=2*w*j by rw[Nat.mul_left_comm,Nat.mul_assoc]];exact Ye _);rwa [show w*(2*j)=2*w*j by rw[Nat.mul_left_comm,Nat.mul_assoc]] at this)
   (by
    have e:w*(2*j+1)=2*w*j+w:=by rw[Nat.mul_add,Nat.mul_left_comm,Nat.mul_assoc];omega
    have:=h5 (2*j+1) (by rw[e];omega);rw[e] at this
    rwa [show 2*w*j+w+w=2*w*j+2*w by omega] at this)
  obtain⟨f1,f2,f3,f4,f5⟩:=Zfu s (2*w*j) (2*w*j+2*w) (by omega) (by omega);refine⟨((n:Int),(w:Int),((2*w*j+2*w:Nat):Int),((2*w*(j+1)+2*w:Nat):Int),ZdO s (2*w*j) (2*w*j+2*w),()),?_,⟨j+1,_,by rw[q1],by omega,by omega,f2.trans h3,λi hi=> ?_,λi hi=> ?_⟩,by simp only;omega⟩
  ·simp only[ZgV,RT.val,d,e1,e2,hr,Ya,e3,Int.toNat_natCast]
  ·by_cases hij:i=j
   ·subst hij;rw[f5];exact Zb1 _
   ·have:2*w*i+2*w<=2*w*j:=by have:=YaQ (2*w) (show i+1<=j by omega);rw[Nat.mul_add] at this;omega
    rw[f3 _ _ this];exact h4 i (by omega)
  ·rw[f4 _ _ (by omega)];exact h5 i (by omega)
 ·right;left;have d:decide (((2*w*j+2*w:Nat):Int)<=(n:Int))=false:=YO (λh=>hb (Int.ofNat_le.1 h));exact⟨_,by simp only[ZgV,RT.val,d,Yb],j,s,rfl,h1,by omega,h2,h3,h4,h5⟩
theorem loop2 (L:List Cell) (n:Nat) (hn:n=L.length) (hm:L.length<=most) (hB:Blk 20 L):
  ∃r,runF false Zfp (λa=>Int.toNat (a.1-a.2.1)+1) ((n:Int),20,L,())=some r/\r.2.2.2.1=isort L:=by
 have hms:=mst;refine ZI (fl:=false) (t:=Zfp) (fuel:=λa=>Int.toNat (a.1-a.2.1)+1)
  (I:=λa=>∃(w:Nat) (s:List Cell),a=((n:Int),(w:Int),s,())/\0<w/\w<=2*most/\s.length=n/\Sm s L/\Blk w s)
  (m:=λa=>Int.toNat (a.1-a.2.1)) (R:=λr=>r.2.2.2.1=isort L)
  (λa hi=> ?_) _ ⟨20,L,by simp,by omega,by omega,hn.symm,Sm.refl L,hB⟩ (YaE _)
 obtain⟨w,s,rfl,h0,h1,h2,h3,h4⟩:=hi;by_cases hb:w<n
 ·left;have d:decide ((w:Int)<(n:Int))=true:=by simpa using hb
  have e0:IntKind.wrap .i64 (2*(w:Int))=((2*w:Nat):Int):=by rw[wrap_i64 _ (by omega) (by omega)];omega
  obtain⟨r,hr,j,t,hr2,k1,k2,k3,k4,k5,k6⟩:=loop1 s w n h2.symm h0 h1 (by omega) h4;have e1:IntKind.wrap .i64 (((2*w*j:Nat):Int)+(w:Int))=((2*w*j+w:Nat):Int):=wadd _ _ (by omega);have e2:IntKind.wrap .i64 ((w:Int)*2)=((2*w:Nat):Int):=by rw[wrap_i64 _ (by omega) (by omega)];omega
  have eA:w*(2*j)=2*w*j:=by rw[Nat.mul_left_comm,Nat.mul_assoc]
  have eB:w*(2*j+1)=2*w*j+w:=by rw[Nat.mul_add,eA];omega
  have s1:=k6 (2*j) (by rw[eA];exact Ye _);have s2:=k6 (2*j+1) (by rw[eB];omega);rw[eA] at s1;rw[eB] at s2;have tail:∀i,j<i->n<=2*w*i:=λi hi=>by have:=YaQ (2*w) (show j+1<=i by omega);rw[Nat.mul_add] at this;omega
  by_cases hm2:2*w*j+w<n
  ·have d2:decide (((2*w*j+w:Nat):Int)<(n:Int))=true:=Yz (Int.ofNat_lt.2 hm2);have s2':Srt (sb t (2*w*j+w) n):=by rw[Zr6 _ _ _ (by omega)];rwa [Zr6 _ _ _ (by omega)] at s2
   have ho:=ZvB t (2*w*j) (2*w*j+w) n (by omega) hm2 (by omega) (by omega) s1 s2';obtain⟨f1,f2,f3,f4,f5⟩:=Zfu t (2*w*j) n (by omega) (by omega);refine⟨((n:Int),((2*w:Nat):Int),ZdO t (2*w*j) n,()),?_,⟨2*w,_,rfl,by omega,by omega,by omega,f2.trans (k4.trans h3),λi=> ?_⟩,by simp only;omega⟩
   ·simp only[Zfp,RT.val,d,e0,hr,hr2,okB,getO,Ya,e1,d2,ho,e2,Yf,Yi,Yj,Int.toNat_natCast]
   ·rcases Nat.lt_trichotomy i j with hij|hij|hij
    ·have:2*w*i+2*w<=2*w*j:=by have:=YaQ (2*w) (show i+1<=j by omega);rw[Nat.mul_add] at this;omega
     rw[f3 _ _ this];exact k5 i hij
    ·subst hij;rw[Zr6 _ _ _ (by omega),<-Zr6 _ _ n (by omega),f5];exact Zb1 _
    ·rw[ZJO _ _ _ (by have:=tail i hij;omega)];exact Yan
  ·have d2:decide (((2*w*j+w:Nat):Int)<(n:Int))=false:=YO (λh=>hm2 (Int.ofNat_lt.1 h));refine⟨((n:Int),((2*w:Nat):Int),t,()),?_,⟨2*w,_,rfl,by omega,by omega,by omega,k4.trans h3,λi=> ?_⟩,by simp only;omega⟩
   ·simp only[Zfp,RT.val,d,e0,hr,hr2,okB,getO,Ya,Yb,e1,d2,e2,Yf,Yl,Yv,Yi,Yj,Int.toNat_natCast]
   ·rcases Nat.lt_trichotomy i j with hij|hij|hij
    ·exact k5 i hij
    ·subst hij;rw[Zr6 _ _ _ (by omega)];rwa [Zr6 _ _ _ (by omega)] at s1
    ·rw[ZJO _ _ _ (by have:=tail i hij;omega)];exact Yan
 ·right;left;have d:decide ((w:Int)<(n:Int))=false:=by simpa using hb
  refine⟨((n:Int),(w:Int),s,()),by simp only[Zfp,RT.val,d,Yb],?_⟩;have:=h4 0;rw[Zr6 _ _ _ (by omega)] at this;exact (Zhj (by simpa using this) h3).symm
theorem ZPV (L:List Cell) (hm:L.length<=most):(Zvt L L.length).val=some (isort L):=by
 have hms:=mst;obtain⟨r,hr,j,s,hr2,k1,k2,k3,k4,k5⟩:=loop0 L hm;have hok:=ZqF s (20*j) L.length k1 (by omega) (by omega);obtain⟨f1,f2,f3,f4,f5⟩:=Zfu s (20*j) L.length k1 (by omega)
 obtain⟨q,hq,hq2⟩:=loop2 (ZdO s (20*j) L.length) L.length (by omega) (by omega) (λi=>by
  rcases Nat.lt_trichotomy i j with hij|hij|hij
  ·rw[f3 _ _ (by omega)];exact k5 i hij
  ·subst hij;rw[Zr6 _ _ _ (by omega),<-Zr6 _ _ L.length (by omega),f5];exact Zb1 _
  ·rw[ZJO _ _ _ (by omega)];exact Yan)
 have hfin:isort (ZdO s (20*j) L.length)=isort L:=Zpe (f2.trans k4);simp only[Zvt,ZdC,RT.val,hr,hr2,okB,getO,Ya,hok,Int.toNat_natCast,hq,hq2,hfin]
def ZmM (l:List Cell) (n:Int):Bool:=decide (n=l.length)&&Nat.ble l.length most
def ZI8:En:=stE ZcN ZrM 160 ZyY (λa=>some (ZmM a.1 a.2)) (λa=>isort a.1)
theorem ZI7:Zb Tryz.prog 234 ZI8:=Zgf ZPE λa h1 h2 hp=>by
 obtain⟨l,n⟩:=a;have hp:ZmM l n=true:=by cases h:ZmM l n<;>simp_all
 simp only[ZmM,Yc,Yk,YF] at hp;obtain⟨rfl,p2⟩:=hp;have:=ZPV l p2;simp only[ZSI,ZXf];rw[this];simp[okB,getO]
abbrev ZuZ:En:=Zrr (R.Pq Kb Ka) ZrM
theorem ZpJ:Zb Tryz.prog 98 ZuZ:=
 Zrq (P:=Tryz.prog) (n:=15) (k:=8) (l:=[]) (ol:=[]) trivial Tryz.func98 rfl (by kernel_rfl) Tryz.call98 trivial
  (λm=>⟨{chk:=none,v:=.w (.one .nilsl),m:=m,bd:=[],sd:=[]},by kernel_rfl,rfl,rfl⟩)
  (λm l h=>⟨{chk:=none,v:=.w (.one (.tip (len m.Sg) 0)),m:={m with Sg:=m.Sg++[ZhK (R.Pq (R.int u16) (R.int u8)) ZrM l]},bd:=[],sd:=[]},by
   have e:(Zz (envX Tryz.prog [] [] 15 8) Tryz.f98 [.w (.one (.lst (R.Pq (R.int u16) (R.int u8)) false false true l))] m).val=cond (Nat.ble ([]++l).length most) (some {chk:=none,v:=.w (.one (.tip (len m.Sg) 0)),m:={m with Sg:=m.Sg++[ZhK (R.Pq (R.int u16) (R.int u8)) ZrM ([]++l)]},bd:=[],sd:=[]}) none:=by kernel_rfl
   rw[e,List.nil_append,h];rfl,rfl,rfl⟩)
