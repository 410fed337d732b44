import Derived.Test.YtpnjbfjomebppaaGreatLawB
set_option linter.unusedSimpArgs false
open Go Go.S3 Go.Proofs
set_option linter.unusedVariables false
set_option maxRecDepth 100000
namespace Go.Proofs.YtpnjbfjomebppaaGreat
noncomputable section
end
end Go.Proofs.YtpnjbfjomebppaaGreat
open Go Go.S3 Go.Proofs Go.Proofs.Cells
namespace Go.Proofs.YtpnjbfjomebppaaGreat
noncomputable section
def EvB (ev:List EVTT) (n:Nat):Prop:=∀e∈ev,e.2.2.1.length<=n
variable {ev:List EVTT} {n:Nat}
theorem EvB.app (h:EvB ev n) {e:EVTT} (he:e.2.2.1.length<=n):EvB (ev++[e]) n:=λx hx=>by
 rcases Yal.1 hx with hx|hx
 ·exact h x hx
 ·rw[List.mem_singleton] at hx;subst hx;exact he
theorem EvB.mono {m:Nat} (h:EvB ev n) (hn:n<=m):EvB ev m:=λe he=>YO (h e he) hn
def cyA:TC->List EVTT->List TY
 |_,[]=>[]
 |c,e::l=>Z7k c e++cyA (ZMC c e) l
def cyI (l:List ITMT):List TY:=(l.filter λy=>y.1==1&&decide (y.2.2.2.1>=3)).map λy=>y.2.1
def unl (c:TC):Int×(Int×Int×Int×Int×Int×Int×Int×(Bool×Bool×Bool×Bool×Bool×Bool×Bool)×Int×Int)×Bool×Bool×Bool×Int×Bool×Bool×Bool:=(c.1,c.2.1,c.2.2.1,c.2.2.2.1,c.2.2.2.2.1,c.2.2.2.2.2.1,c.2.2.2.2.2.2.2.2.2.2)
structure Sem (s0:TC) (c:CORT) (ev:List EVTT) (cp:List TC) (it:List ITMT):Prop where
 hcp:cp=Z7N s0 ev
 un:unl c.1=unl (Zbo (Z6O s0 ev) c.2.1)
 nx:1<=c.2.2.2.2.1/\c.2.2.2.2.1<=9
 rest:c.2.1=0->c.1.2.2.2.2.1=true->(c.2.2.2.2.1=8\/c.2.2.2.2.1=9)/\c.2.2.1=[]
 nine:c.2.2.2.2.1=9->c.2.1=0/\c.1.2.2.2.2.1=true
 cy:(c.2.2.2.2.1<4\/6<c.2.2.2.2.1)->c.2.2.2.1=(Zj c.1 c.2.1 c.2.2.1).1/\(Zj c.1 c.2.1 c.2.2.1).2=true
 hit:cyI it=cyA s0 ev++cyX (Zbo (Z6O s0 ev) c.2.1) c.2.1 [] c.2.2.1
 ln:(cyX (Zbo (Z6O s0 ev) c.2.1) c.2.1 [] c.2.2.1).length=c.2.2.1.length
 pt:(c.2.2.2.2.1=2\/c.2.2.2.2.1=3\/c.2.2.2.2.1=7)->∃(l:List ITMT) (y:ITMT),it=l++[y]/\y.1=1/\y.2.2.2.1=(bif c.2.2.2.2.1==2 then 1 else 2)
 ps:4<=c.2.2.2.2.1->c.2.2.2.2.1<=6->∃(l:List ITMT) (y:ITMT),it=l++[y]/\y.1=1/\y.2.2.2.1=c.2.2.2.2.1-1/\y.2.1=c.2.2.2.1
theorem Z8R (k t:Int) (x:TY) (d:Int) (i o:Bool):ZhD (ZgK k t x d i o)=(t==8):=by
 unfold ZgK ZoG ZhD;simp only[RT.val];cases h8:t==8
 ·cases t==9
  ·cases t==10
   ·cases rOn k<;>rfl
   ·rfl
  ·rfl
 ·rfl
theorem ZpO {c:CORT} {l:LINT} {d:Int} (h:ZhD (Zcu c l d)=true):l.2.2.1=false/\ZS c.2.2.2.2.1=8:=by
 unfold Zcu at h;rw[Z8R] at h;cases hl:l.2.2.1
 ·rw[hl] at h;simp at h;exact⟨rfl,h⟩
 ·rw[hl] at h;simp at h
theorem Z8A (b:BRDT) (hg:smG b.2.1=true) (hm:b.2.2.2.2.2.2.length<=100000) (hx:((wNew b).2 !=0)=false):wNew b=(newS b,0):=by
 have hv:(ZDo b).val=some (bif ZcF b !=0 then (ZnC,ZcF b) else ((newS b),0)):=by unfold ZDo;have hc:=smCb (l:=b.2.2.2.2.2.2) (by omega);simp only[RT.val,ZnG b hg hc,hc,Ya];cases ZcF b !=0<;>rfl
 have hx':(ZcF b !=0)=false:=by
  cases hq:ZcF b !=0
  ·rfl
  ·exfalso;simp only[wNew,hv,getO,hq,Ya] at hx;simp at hx
 simp only[wNew,hv,getO,hx',Yc]
end
end Go.Proofs.YtpnjbfjomebppaaGreat
open Go.IntKind (u8 u16 i64)
namespace Go.Proofs.YtpnjbfjomebppaaGreat
noncomputable section
abbrev ZoA:List Sh:=[So (R.sl Zjx),So (R.sl Zjx)]
def ZAO:LS:={n:=26,Sl:=[(0,.code (So (R.sl Zjx))),(1,.code (So (R.sl Zjx))),(4,.code (So R.bool)),(12,.code (So Kc)),(13,.code (So Kc))],Bx:=[],Sg:=[]}
def ZdV (a:List PINT×List PINT×Bool×Int×Int×PUnit):RT (Option (Go1 (List PINT×List PINT×Bool×Int×Int×PUnit))):=
 let x1:= !Ze a.2.2.2.2.1 (Le a.1)||Ze a.2.2.2.2.1 (Le a.2.1)
 let x2:PINT:=R.get Zjx a.1 a.2.2.2.2.1
 let x3:PINT:=R.get Zjx a.2.1 a.2.2.2.2.1
 let x34:QT34:=(a.2.2.2.1,a.2.2.2.2.1,PUnit.unit)
 .br (decide (a.2.2.2.2.1<a.2.2.2.1)) (.br (!x1||Ze a.2.2.2.2.1 (Le a.1)) (.br (x1) (.br (!(R.eqf Zjx x2 x3 true)) (Ls (Go1.ret (a.1,a.2.1,false,x34))) (Ls (Go1.cont (a.1,a.2.1,a.2.2.1,a.2.2.2.1,i64.wrap (a.2.2.2.2.1+1),PUnit.unit)))) Ln) Ln) (Ls (Go1.brk (a.1,a.2.1,a.2.2.1,x34)))
def Zma:Ora:=ZaX true ZAO ZdV (λa=>1000000000000)
theorem Zsl:ZaF (envX Tryz.prog [] [] 63 8) (.block 0 (.loop (Z4 Tryz.f24.body 0))) Zma:=
 loopP trivial
def ZfN (a:List PINT) (b:List PINT):RT (Option (Bool)):=
 let x1:=runF true ZdV (λa_1=>1000000000000) (a,b,false,iN (Le a),0,())
 let x2:=getO (false,a,b,false,iN (Le a),0,()) x1
 .br (iN (Le a) !=iN (Le b)) (Ls (false)) (.br (okB x1) (.br x2.1 (Ls x2.2.2.2.1) (Ls (true))) Ln)
def ZdW (a:List PINT) (b:List PINT):Bool:=getO Zqd.Df (ZfN a b).val
def ZcY (a:List PINT) (b:List PINT):Bool:=okB (ZfN a b).val
def Ztt:En:=Zg ZoA Zqd (λa=>some (ZcY a.1 a.2)) (λa=>ZdW a.1 a.2)
theorem ZAN:Za Tryz.prog 24 Ztt:=
 pureP 63 [] [(0,Zma)] _ _ trivial Tryz.func24 Tryz.call24 ⟨Zsl,Tv⟩
theorem ZUP (c:TC) (l:LINT):0<=ZcU c l/\ZcU c l<=5:=by
 have hv:∃k,(ZAW c l).val=k/\(0:Int)<=k/\k<=5:=by
  simp only[ZAW,RT.val,Bool.cond_eq_ite];repeat' split
  all_goals exact⟨_,rfl,by omega,by omega⟩
 obtain⟨k,hk,h0,h1⟩:=hv;simp only[ZcU,hk];exact⟨h0,h1⟩
def ZQs (c:CORT):Prop:=0<=c.2.1/\c.2.1<=5
theorem ZSa (p:TC) (s:Int) (g:List Int) (h:Bool) (l:LINT) (hs:0<=s/\s<=5):ZQs (endX p s g h l):=by
 unfold endX;cases (Zj p s g).2
 ·exact ZUP _ _
 ·exact hs
theorem ZSb (c:CORT) (l:LINT) (d:Int) (hs:ZQs c):ZQs (ZX c l d):=by
 unfold ZX;dsimp only;cases l.2.2.1
 ·cases ZS c.2.2.2.2.1==1
  ·cases ZS c.2.2.2.2.1==2||ZS c.2.2.2.2.1==7
   ·cases ZS c.2.2.2.2.1==8
    ·cases ZS c.2.2.2.2.1==9
     ·cases ZS c.2.2.2.2.1==3
      ·cases decide (ZS c.2.2.2.2.1<c.2.2.2.1.2.2.2)&& !(ZS c.2.2.2.2.1==6)
       ·exact ZSa _ _ _ _ _ hs
       ·exact hs
      ·cases le3 (ZcI (Zh c.1 l) c.2.2.2.1 d).2.2.2
       ·exact hs
       ·exact ZSa _ _ _ _ _ hs
     ·cases ZcU (Zh c.1 l) l==0
      ·exact ZUP _ _
      ·exact hs
    ·exact hs
   ·cases l.1|| !Z6 c.2.2.2.1.1<;>exact hs
  ·exact hs
 ·exact⟨Int.le_refl 0,(by decide:(0:Int)<=5)⟩
def kindP (s:Int):Int:=bif s==0 then 1 else bif s==5 then 2 else 3
variable {c:CORT}
theorem Z1j (h:ZQs c):kindP c.2.1=ZQQ c.2.1:=by
 have h:=h;unfold ZQs at h;generalize c.2.1=s at h;have e:s=0\/s=1\/s=2\/s=3\/s=4\/s=5:=by omega
 rcases e with rfl|rfl|rfl|rfl|rfl|rfl<;>rfl
theorem ZSr (hn:1<=c.2.2.2.2.1/\c.2.2.2.2.1<=9):ZS c.2.2.2.2.1=c.2.2.2.2.1:=by
 have h1:(decide (c.2.2.2.2.1<1)||decide (c.2.2.2.2.1>9))=false:=by simp;omega
 simp only[ZS,h1,Yc]
theorem Zub (p:TC) (l:LINT):(Zh p l).1=p.1:=by simp only[Zh,Zv0,RT.val];cases rOn p.1<;>rfl
theorem Z80 (c:CORT) (l:LINT) (d:Int) (hn:1<=c.2.2.2.2.1/\c.2.2.2.2.1<=9) (hr:l.2.2.1=false):
  (ZaK c l d).1=(finS c l d).2/\((finS c l d).2=true->(ZaK c l d).2.1=(finS c l d).1/\(ZaK c l d).2.2.1=ZhJ c (Zp c) d)/\(ZaK c l d).2.2.2.1=Zal c (Zp c) d/\(ZaK c l d).2.2.2.2=Zh c.1 l:=by
 have hsx:=ZSr hn;have hst:Zp c=c.2.2.2.2.1:=hsx;rw[hst];obtain⟨p0,s,g,x,n,hd⟩:=c;simp only at hn hsx;have hchip:=Zub p0 l;have hne:∀k:Int,n=k->(k==3)=false->Zal (p0,s,g,x,n,hd) n d=x:=λk hk h3=>by simp only[Zal,ZnQ,RT.val,hk,h3,Yc]
 have other:∀k:Int,n=k->(k==3)=false->(k==4||(k==5||k==6))=false->(∀y,ZjK k y=false)->
   (ZaK (p0,s,g,x,n,hd) l d).1=(finS (p0,s,g,x,n,hd) l d).2/\((finS (p0,s,g,x,n,hd) l d).2=true->(ZaK (p0,s,g,x,n,hd) l d).2.1=(finS (p0,s,g,x,n,hd) l d).1/\(ZaK (p0,s,g,x,n,hd) l d).2.2.1=ZhJ (p0,s,g,x,n,hd) n d)/\(ZaK (p0,s,g,x,n,hd) l d).2.2.2.1=Zal (p0,s,g,x,n,hd) n d/\(ZaK (p0,s,g,x,n,hd) l d).2.2.2.2=Zh p0 l:=by
  intro k hk h3 h4 he;subst hk;have hch:ZaK (p0,s,g,x,n,hd) l d=(false,cpu0,[],x,Zh p0 l):=by unfold ZaK;simp only[hsx,h3,h4,YL,Yc]
  have hf:(finS (p0,s,g,x,n,hd) l d).2=false:=by unfold finS;simp only[hr,he,Yl,Ya,Yc]
  rw[hch,hf,hne n rfl h3];exact⟨rfl,λe=>by simp at e,rfl,rfl⟩
 have last:∀k:Int,n=k->(k==3)=false->(k==4||(k==5||k==6))=true->(∀y:TY,ZjK k y= !(decide (k<y.2.2.2)&& !(k==6)))->
   (ZaK (p0,s,g,x,n,hd) l d).1=(finS (p0,s,g,x,n,hd) l d).2/\((finS (p0,s,g,x,n,hd) l d).2=true->(ZaK (p0,s,g,x,n,hd) l d).2.1=(finS (p0,s,g,x,n,hd) l d).1/\(ZaK (p0,s,g,x,n,hd) l d).2.2.1=ZhJ (p0,s,g,x,n,hd) n d)/\(ZaK (p0,s,g,x,n,hd) l d).2.2.2.1=Zal (p0,s,g,x,n,hd) n d/\(ZaK (p0,s,g,x,n,hd) l d).2.2.2.2=Zh p0 l:=by
  intro k hk h3 h4 he;subst hk;have hb3:(n !=3)=true:=by rw[bne,h3];rfl
  have hch:ZaK (p0,s,g,x,n,hd) l d=bif !(decide (n<x.2.2.2)&& !(n==6))&& !(Zj (Zh p0 l) s g).2 then (true,finX (Zh p0 l) s g l,g,x,Zh p0 l) else (false,cpu0,[],x,Zh p0 l):=by unfold ZaK;simp only[hsx,h3,h4,YH,Yc]
  have hf:finS (p0,s,g,x,n,hd) l d=bif decide (n<x.2.2.2)&& !(n==6) then (Zut,false) else bif (Zj (Zh p0 l) s g).2 then (Zut,false) else (finX (Zh p0 l) s g l,true):=by unfold finS rdS;simp only[hr,hb3,he,Bool.not_not,Ya,Yc]
  have hby:ZhJ (p0,s,g,x,n,hd) n d=g:=by unfold ZhJ;simp only[h3,Yc]
  rw[hch,hf,hne n rfl h3,hby];cases decide (n<x.2.2.2)&& !(n==6)
  ·cases (Zj (Zh p0 l) s g).2
   ·exact⟨rfl,λ_=>⟨rfl,rfl⟩,rfl,rfl⟩
   ·exact⟨rfl,λe=>by simp at e,rfl,rfl⟩
  ·exact⟨rfl,λe=>by simp at e,rfl,rfl⟩
 have hcases:n=1\/n=2\/n=3\/n=4\/n=5\/n=6\/n=7\/n=8\/n=9:=by omega
 have ends45:∀k:Int,k=4\/k=5->∀y:TY,ZjK k y= !(decide (k<y.2.2.2)&& !(k==6)):=λk hk y=>by
  have h6:(!(k==6))=true:=by rcases hk with rfl|rfl<;>rfl
  rw[h6,YT];have e:ZjK k y=decide (y.2.2.2<=k):=by rcases hk with rfl|rfl<;>rfl
  rw[e];by_cases q:k<y.2.2.2
  ·rw[YA q,Y6 (by omega)];rfl
  ·rw[Y6 q,YA (by omega)];rfl
 rcases hcases with e|e|e|e|e|e|e|e|e
 ·exact other 1 e rfl rfl λ_=>rfl
 ·exact other 2 e rfl rfl λ_=>rfl
 ·subst e;generalize hx3:ZcI (Zh p0 l) x d=x3;have hx3':ZcI p0 x d=x3:=by rw[<-hx3];unfold ZcI;rw[hchip]
  have hcur:Zal (p0,s,g,x,3,hd) 3 d=x3:=by rw[<-hx3'];rfl
  have hrd:rdS (p0,s,g,x,3,hd) 3 d=(x3,g++[x3.2.2.1]):=by show (ZcI p0 x d,g++[(ZcI p0 x d).2.2.1])=_;rw[hx3']
  have hen:ZjK 3 x3=le3 x3.2.2.2:=rfl;have hby:ZhJ (p0,s,g,x,3,hd) 3 d=g++[x3.2.2.1]:=by unfold ZhJ;rw[hcur];rfl
  have hch:ZaK (p0,s,g,x,3,hd) l d=bif le3 x3.2.2.2&& !(Zj (Zh p0 l) s (g++[x3.2.2.1])).2 then (true,finX (Zh p0 l) s (g++[x3.2.2.1]) l,g++[x3.2.2.1],x3,Zh p0 l) else (false,cpu0,[],x3,Zh p0 l):=by unfold ZaK;simp only[hsx,hx3];rfl
  have hf:finS (p0,s,g,x,3,hd) l d=bif le3 x3.2.2.2 then (bif (Zj (Zh p0 l) s (g++[x3.2.2.1])).2 then (Zut,false) else (finX (Zh p0 l) s (g++[x3.2.2.1]) l,true)) else (Zut,false):=by unfold finS;simp only[hr,hrd,hen,Yc];cases le3 x3.2.2.2<;>rfl
  rw[hch,hf,hcur,hby];cases le3 x3.2.2.2
  ·exact⟨rfl,λe=>by simp at e,rfl,rfl⟩
  ·cases (Zj (Zh p0 l) s (g++[x3.2.2.1])).2
   ·exact⟨rfl,λ_=>⟨rfl,rfl⟩,rfl,rfl⟩
   ·exact⟨rfl,λe=>by simp at e,rfl,rfl⟩
 ·exact last 4 e rfl rfl (ends45 4 (.inl rfl))
 ·exact last 5 e rfl rfl (ends45 5 (.inr rfl))
 ·exact last 6 e rfl rfl λy=>by cases decide ((6:Int)<y.2.2.2)<;>rfl
 ·exact other 7 e rfl rfl λ_=>rfl
 ·exact other 8 e rfl rfl λ_=>rfl
 ·exact other 9 e rfl rfl λ_=>rfl
def ZCa (n:Int):Int:=bif n==2 then 1 else bif n==3||n==7 then 2 else n-1
def ZDg (c:CORT) (it:List ITMT):Prop:=
 (1<=c.2.2.2.2.1/\c.2.2.2.2.1<=9)/\((c.2.2.2.2.1=8\/c.2.2.2.2.1=9\/c.2.2.2.2.1=1)\/∃l y,it=l++[y]/\y.2.1=c.2.2.2.1/\y.2.2.2.1=ZCa c.2.2.2.2.1)
theorem ZXL (c:TC) (s:Int) (h:Bool):idlX c s h=8\/idlX c s h=9\/idlX c s h=1:=by
 unfold idlX;cases h
 ·cases c.2.2.2.2.1&&s==0
  ·exact .inr (.inr rfl)
  ·exact .inr (.inl rfl)
 ·exact .inl rfl
theorem Zki (it:List ITMT) (h:c.2.2.2.2.1=8\/c.2.2.2.2.1=9\/c.2.2.2.2.1=1):ZDg c it:=⟨by omega,.inl h⟩
theorem ZCC (p:TC) (s:Int) (g:List Int) (h:Bool) (l:LINT) (it:List ITMT):ZDg (endX p s g h l) it:=by
 apply Zki;unfold endX;cases (Zj p s g).2
 ·exact ZXL _ _ _
 ·exact ZXL _ _ _
theorem ZXn {it:List ITMT} (h:ZDg c it) (l:LINT) (d:Int) (hr:l.2.2.1=false):ZDg (ZX c l d) (Zi3 it c (Zal c (Zp c) d) (Zp c)):=by
 obtain⟨hn,h⟩:=h;have hsx:=ZSr hn;have hst:Zp c=c.2.2.2.2.1:=hsx;rw[hst];obtain⟨p0,s,g,x,n,hd⟩:=c;simp only at hn hsx h;have get:∀k:Int,n=k->(k==8)=false->(k==9)=false->(k==1)=false->∃l y,it=l++[y]/\y.2.1=x/\y.2.2.2.1=ZCa k:=λk hk h8 h9 h1=>by
  subst hk;rcases h with (h|h|h)|h
  ·rw[h] at h8;simp at h8
  ·rw[h] at h9;simp at h9
  ·rw[h] at h1;simp at h1
  ·exact h
 have more:∀k:Int,n=k->(k=4\/k=5\/k=6)->ZDg (ZX (p0,s,g,x,n,hd) l d) (Zi3 it (p0,s,g,x,n,hd) (Zal (p0,s,g,x,n,hd) n d) n):=λk hk h4=>by
  subst hk;have b1:(n==1)=false:=by rcases h4 with rfl|rfl|rfl<;>rfl
  have b2:(n==2||n==7)=false:=by rcases h4 with rfl|rfl|rfl<;>rfl
  have b3:(n==3)=false:=by rcases h4 with rfl|rfl|rfl<;>rfl
  have b8:(n==8)=false:=by rcases h4 with rfl|rfl|rfl<;>rfl
  have b9:(n==9)=false:=by rcases h4 with rfl|rfl|rfl<;>rfl
  have hck:ZX (p0,s,g,x,n,hd) l d=bif decide (n<x.2.2.2)&& !(n==6) then (Zh p0 l,s,g,x,n+1,hd) else endX (Zh p0 l) s g hd l:=by unfold ZX;simp only[hr,hsx,b1,b2,b3,b8,b9,Yc]
  rw[hck];cases hb:decide (n<x.2.2.2)&& !(n==6)
  ·exact ZCC _ _ _ _ _ _
  ·obtain⟨l',y,rfl,y1,y2⟩:=get n rfl b8 b9 b1;have h6:n≠6:=by simp at hb;exact hb.2
   refine⟨⟨by show 1<=n+1;omega,by show n+1<=9;omega⟩,.inr ⟨l',(y.1,x,y.2.2.1,n,y.2.2.2.2),?_,rfl,?_⟩⟩
   ·have e:ZCa n=n-1:=by rcases h4 with rfl|rfl|rfl<;>rfl
    rw[e] at y2;have w:IntKind.wrap .i64 (y.2.2.2.1+1)=n:=by rw[y2,wrap_i64 _ (by omega) (by omega)];omega
    rcases h4 with rfl|rfl|rfl
    ·show ZcJ (l'++[y]) _=_;rw[ZbY,w];rfl
    ·show ZcJ (l'++[y]) _=_;rw[ZbY,w];rfl
    ·exact absurd rfl h6
   ·show n=ZCa (n+1);rcases h4 with rfl|rfl|rfl
    ·rfl
    ·rfl
    ·exact absurd rfl h6
 have hcases:n=1\/n=2\/n=3\/n=4\/n=5\/n=6\/n=7\/n=8\/n=9:=by omega
 have wait:∀k:Int,k=3\/k=7->1<=k/\k<=9:=λk hk=>by omega
 rcases hcases with e|e|e|e|e|e|e|e|e
 ·subst e;have hck:ZX (p0,s,g,x,1,hd) l d=(Zh p0 l,s,g,x,2,hd):=by unfold ZX;simp only[hr,hsx];rfl
  rw[hck];exact⟨by show (1:Int)<=2/\(2:Int)<=9;decide,.inr ⟨it,_,rfl,rfl,rfl⟩⟩
 ·subst e;obtain⟨l',y,rfl,y1,y2⟩:=get 2 rfl rfl rfl rfl;have hck:ZX (p0,s,g,x,2,hd) l d=(Zh p0 l,s,g,x,bif l.1|| !Z6 x.1 then 3 else 7,bif l.1|| !Z6 x.1 then l.2.1 else hd):=by unfold ZX;simp only[hr,hsx];show (bif l.1|| !Z6 x.1 then _ else _)=_;cases l.1|| !Z6 x.1<;>rfl
  have w:IntKind.wrap .i64 (y.2.2.2.1+1)=2:=by rw[y2];rfl
  rw[hck];refine⟨wait _ (by cases l.1|| !Z6 x.1<;>simp),.inr ⟨l',(y.1,x,y.2.2.1,2,y.2.2.2.2),?_,rfl,?_⟩⟩
  ·show ZcJ (l'++[y]) _=_;rw[ZbY,w];rfl
  ·show (2:Int)=ZCa (bif l.1|| !Z6 x.1 then 3 else 7);cases l.1|| !Z6 x.1<;>rfl
 ·subst e;obtain⟨l',y,rfl,y1,y2⟩:=get 3 rfl rfl rfl rfl;have hck:ZX (p0,s,g,x,3,hd) l d=bif le3 (ZcI (Zh p0 l) x d).2.2.2 then endX (Zh p0 l) s (g++[(ZcI (Zh p0 l) x d).2.2.1]) hd l else (Zh p0 l,s,g++[(ZcI (Zh p0 l) x d).2.2.1],ZcI (Zh p0 l) x d,4,hd):=by unfold ZX;simp only[hr,hsx];rfl
  rw[hck];cases le3 (ZcI (Zh p0 l) x d).2.2.2
  ·have w:IntKind.wrap .i64 (y.2.2.2.1+1)=3:=by rw[y2];rfl
   refine⟨by show (1:Int)<=4/\(4:Int)<=9;decide,.inr ⟨l',(y.1,ZcI (Zh p0 l) x d,y.2.2.1,3,y.2.2.2.2),?_,rfl,rfl⟩⟩;have hcur:Zal (p0,s,g,x,3,hd) 3 d=ZcI (Zh p0 l) x d:=by unfold ZcI;rw[Zub];rfl
   rw[hcur];show ZcJ (l'++[y]) _=_;rw[ZbY,w];rfl
  ·exact ZCC _ _ _ _ _ _
 ·exact more 4 e (.inl rfl)
 ·exact more 5 e (.inr (.inl rfl))
 ·exact more 6 e (.inr (.inr rfl))
 ·subst e;obtain⟨l',y,rfl,y1,y2⟩:=get 7 rfl rfl rfl rfl;have hck:ZX (p0,s,g,x,7,hd) l d=(Zh p0 l,s,g,x,bif l.1|| !Z6 x.1 then 3 else 7,bif l.1|| !Z6 x.1 then l.2.1 else hd):=by unfold ZX;simp only[hr,hsx];show (bif l.1|| !Z6 x.1 then _ else _)=_;cases l.1|| !Z6 x.1<;>rfl
  rw[hck];refine⟨wait _ (by cases l.1|| !Z6 x.1<;>simp),.inr ⟨l',(y.1,x,IntKind.wrap .i64 (y.2.2.1+1),y.2.2.2),?_,rfl,?_⟩⟩
  ·show ZcJ (l'++[y]) _=_;rw[ZbY];rfl
  ·show y.2.2.2.1=ZCa (bif l.1|| !Z6 x.1 then 3 else 7);rw[y2];cases l.1|| !Z6 x.1<;>rfl
 ·subst e;have hck:ZX (p0,s,g,x,8,hd) l d=(Zh p0 l,s,g,x,idlX (Zh p0 l) s l.2.1,hd):=by unfold ZX;simp only[hr,hsx];rfl
  rw[hck];exact Zki _ (ZXL _ _ _)
 ·subst e;have hck:(ZX (p0,s,g,x,9,hd) l d).2.2.2.2.1=bif ZcU (Zh p0 l) l==0 then (bif l.2.1 then 8 else 9) else (bif l.2.1 then 8 else 1):=by unfold ZX;simp only[hr,hsx];show (bif ZcU (Zh p0 l) l==0 then _ else _:CORT).2.2.2.2.1=_;cases ZcU (Zh p0 l) l==0<;>rfl
  refine Zki _ ?_;rw[hck];cases ZcU (Zh p0 l) l==0<;>cases l.2.1<;>simp
def RbOk (st:STT):Prop:=ZQs st.1.1/\ZDg st.1.1 st.2.2.1
theorem Z4Y (b:BRDT) (s0:TC) (st:STT) (i:INPT) (h:RbOk st):RbOk (Zc8 b s0 st i):=by
 have hc:(Zc8 b s0 st i).1.1=ZX st.1.1 (Zb5 b (Zv b st.1 i) i) (busS b (Zv b st.1 i) i).2:=Zuo b st.1 i;refine⟨by rw[hc];exact ZSb _ _ _ h.1,?_⟩;rw[hc];show ZDg _ (Zi3 st.2.2.1 st.1.1 (Zal st.1.1 (nowS st.1 i) (busS b (Zv b st.1 i) i).2) (nowS st.1 i));have hl2:(Zb5 b (Zv b st.1 i) i).2.2.1=i.2.2.1:=rfl;cases hr:i.2.2.1
 ·have hnow:nowS st.1 i=Zp st.1.1:=by unfold nowS;rw[hr];rfl
  rw[hnow];exact ZXn h.2 _ _ (by rw[hl2,hr])
 ·refine Zki _ (.inr (.inr ?_));unfold ZX;rw[hl2,hr];rfl
variable {α β:Type}
theorem ZnA (c:Bool) (x y:α×β):(bif c then x.1 else y.1)=(bif c then x else y).1:=by cases c<;>rfl
theorem Znz (c:Bool) (x y:α×β):(bif c then x.2 else y.2)=(bif c then x else y).2:=by cases c<;>rfl
theorem Znc (p:α×β):(p.1,p.2)=p:=rfl
theorem Z4O (k t:Int) (x:TY) (d:Int) (i o:Bool):(ZgK k t x d i o).1=t:=by
 simp only[ZgK,ZoG,RT.val];cases t==8
 ·cases t==9
  ·cases t==10
   ·cases rOn k<;>rfl
   ·rfl
  ·rfl
 ·rfl
theorem Z3k (c:CORT) (l:LINT) (d:Int):(Zcu c l d).1=bif l.2.2.1 then 10 else Zp c:=Z4O _ _ _ _ _ _
theorem ZuY (d:QT4):(ZaL d).2.2=ZQ d:=by rw[ZR2];cases ZQ d<;>rfl
theorem ZYq (b:BRDT) (s:SYST) (i:INPT) (hr:i.2.2.1=true):
  (busS b (Zv b s i) i).2=0/\(Za1 b s i).1=(ZX s.1 (Zb5 b (Zv b s i) i) 0,s.2.1,Z4I (Zv b s i).2.2.1 0,(s.2.2.2.1.1,s.2.2.2.1.2.1,0),Zbz s,s.2.2.2.2.2)/\Zed b s i=false:=by
 have hb:busS b (Zv b s i) i=(Zv b s i,0):=by unfold busS;dsimp only;rw[hr];rfl
 have hw:ZiC s i=false:=by unfold ZiC;rw[hr];rfl
 have hc:Zfu b s i=(ZX s.1 (Zb5 b (Zv b s i) i) 0,s.2.1,(Zv b s i).2.2.1,s.2.2.2.1,Zbz s,s.2.2.2.2.2):=by unfold Zfu;dsimp only;rw[hb];rfl
 have hwr:Zdq b s i=Zfu b s i:=by unfold Zdq;rw[hw];rfl
 have hm:Zed b s i=false:=by
  unfold Zed;have:ZhD (pinS b s i)=false:=by
   cases h:ZhD (pinS b s i)
   ·rfl
   ·unfold pinS at h;have:=(ZpO h).1;rw[show (Zb5 b (Zv b s i) i).2.2.1=i.2.2.1 from rfl,hr] at this;simp at this
  rw[this];rfl
 refine⟨by rw[hb],?_,hm⟩;show ZAs (Zkd b s i) i.2.2.1=_;have:Zkd b s i=Zfu b s i:=by unfold Zkd;dsimp only;rw[hm,hwr];rfl
 rw[this,hc,hr];rfl
theorem Z1U (b:BRDT) (s:SYST) (i:INPT) (hr:i.2.2.1=false) {L:LINT} {D:Int} {B:PICT} {w k7 x71 x72 d2:Bool} {d1 p:Int} {Wm:List Cell} {Wd:QT4}
  (hL:Zb5 b (Zv b s i) i=L) (hD:(busS b (Zv b s i) i).2=D) (hB:(busS b (Zv b s i) i).1.2.2.1=B) (hw:(Zp s.1==3&&Zce s.1.2.2.2.1.1)=w) (h7:(s.1.2.2.2.1.1 !=7)=k7)
  (hp:IntKind.wrap .u8 s.1.2.2.2.1.2.1=p) (h71:(ZbI b p).2=x71) (h72:x71=true->(ZbI b p).1=x72) (hd:ZdS b p=(d1,d2))
  (hm:(bif w then bif k7 then Zbn b.2.1 s.2.1 s.1.2.2.2.1.2.1 s.1.2.2.2.1.2.2.1 else s.2.1 else s.2.1)=Wm)
  (hwd:(bif w then bif k7 then s.2.2.2.1 else bif x71 then s.2.2.2.1 else bif d2 then Zgb s.2.2.2.1 d1 s.1.2.2.2.1.2.2.1 else s.2.2.2.1 else s.2.2.2.1)=Wd):
  Zed b s i=(ZhD (Zcu s.1 L D)&&ZQ Wd)/\pinS b s i=Zcu s.1 L D/\
  (Za1 b s i).1=(ZX s.1 L D,(bif ZhD (Zcu s.1 L D)&&ZQ Wd then Zbn b.2.1 Wm (ZaL Wd).2.1.1 (ZaL Wd).2.1.2 else Wm),(bif w then bif k7 then B else bif x71 then Zjj B x72 s.1.2.2.2.1.2.2.1 else B else B),
   (bif ZhD (Zcu s.1 L D)&&ZQ Wd then (ZaL Wd).1 else Wd),Zbz s,(bif w then bif k7 then s.2.2.2.2.2 else s.2.2.2.2.2++[(p,s.1.2.2.2.1.2.2.1)] else s.2.2.2.2.2))/\
  (Za1 b s i).2.2.2.2.1=(bif ZhD (Zcu s.1 L D)&&ZQ Wd then (ZaL Wd).2.1 else (0,0)):=by
 obtain⟨k1,k2,k3⟩:=ZkA b (Zv b s i) i;have hc:Zfu b s i=(ZX s.1 L D,s.2.1,B,s.2.2.2.1,Zbz s,s.2.2.2.2.2):=by unfold Zfu;dsimp only;rw[k1,k2,k3,hB,hL,hD];rfl
 have hws:ZiC s i=w:=by unfold ZiC;rw[hr];exact hw
 have hW:Zdq b s i=(ZX s.1 L D,Wm,(bif w then bif k7 then B else bif x71 then Zjj B x72 s.1.2.2.2.1.2.2.1 else B else B),Wd,Zbz s,(bif w then bif k7 then s.2.2.2.2.2 else s.2.2.2.2.2++[(p,s.1.2.2.2.1.2.2.1)] else s.2.2.2.2.2)):=by
  unfold Zdq Zg0;dsimp only;rw[hws,hc,hp,h7,hd,h71,<-hm,<-hwd];cases w
  ·rfl
  ·cases k7
   ·cases hx:x71
    ·rfl
    ·rw[h72 hx];rfl
   ·rfl
 have hP:pinS b s i=Zcu s.1 L D:=by unfold pinS;rw[k1,hL,hD];rfl
 have hM:Zed b s i=(ZhD (Zcu s.1 L D)&&ZQ Wd):=by unfold Zed;rw[hP,hW]
 have hcell:(Za1 b s i).2.2.2.2.1=(bif ZhD (Zcu s.1 L D)&&ZQ Wd then (ZaL Wd).2.1 else (0,0)):=by
  show (bif Zed b s i then ((Zdq b s i).2.2.2.1.1,(Zdq b s i).2.2.2.1.2.1) else (0,0))=_;rw[hM,hW,ZR2];cases ZhD (Zcu s.1 L D)
  ·rfl
  ·cases ZQ Wd<;>rfl
 refine⟨hM,hP,?_,hcell⟩;show ZAs (Zkd b s i) i.2.2.1=_;rw[hr];show Zkd b s i=_;unfold Zkd;dsimp only;rw[hM,hW,ZR2];cases ZhD (Zcu s.1 L D)
 ·rfl
 ·cases ZQ Wd<;>rfl
abbrev TupB:=List INPT×Int×Int×CORT×List Cell×PICT×(QT4)×Int×BRDT×SYST×TC×List (Int×Int)×List PINT×List ITMT×List EVTT×List TC×PUnit
def tupB (l:List INPT) (j:Int) (b:BRDT) (s0:SYST) (ZJ:TC) (st:STT):TupB:=(l,(l.length:Int),j,st.1.1,st.1.2.1,st.1.2.2.1,st.1.2.2.2.1,st.1.2.2.2.2.1,b,s0,ZCD ZJ st.2.2.2.2,st.1.2.2.2.2.2,st.2.1,st.2.2.1,st.2.2.2.1,st.2.2.2.2,())
theorem ZP5 (c:CORT) (it':List ITMT) (y:ITMT) (d:Int) (h:ZDg c (it'++[y])):
  (bif Zp c==1 then it'++[y]++[(1,Zal c (Zp c) d,0,1,c.1.2.2.1,c.1.2.2.2.2.2.2.2.2.2.2.2.2)] else bif Zp c==7 then it'++[(y.1,y.2.1,IntKind.wrap .i64 (y.2.2.1+1),y.2.2.2)] else
   bif (bif Zp c==2 then Zp c==2 else bif Zp c==3 then Zp c==3 else bif Zp c==4 then Zp c==4 else bif Zp c==5 then Zp c==5 else Zp c==6) then it'++[(y.1,Zal c (Zp c) d,y.2.2.1,Zp c,y.2.2.2.2)] else
   bif Zp c==8 then (bif y.1==2&&(y.2.2.2.2.1==c.1.2.2.1&&y.2.2.2.2.2==c.1.2.2.2.2.2.2.2.2.2.2.2.2) then it'++[(y.1,y.2.1,y.2.2.1,IntKind.wrap .i64 (y.2.2.2.1+1),y.2.2.2.2)] else it'++[y]++[(2,(0,0,0,0),0,1,c.1.2.2.1,c.1.2.2.2.2.2.2.2.2.2.2.2.2)]) else
   bif Zp c==9 then (bif y.1==3&&(y.2.2.2.2.1==c.1.2.2.1&&y.2.2.2.2.2==c.1.2.2.2.2.2.2.2.2.2.2.2.2) then it'++[(y.1,y.2.1,y.2.2.1,IntKind.wrap .i64 (y.2.2.2.1+1),y.2.2.2.2)] else it'++[y]++[(3,(0,c.1.2.1.2.2.2.2.2.2.2.2.2,0,0),0,1,c.1.2.2.1,c.1.2.2.2.2.2.2.2.2.2.2.2.2)]) else it'++[y])=
  Zi3 (it'++[y]) c (Zal c (Zp c) d) (Zp c):=by
 obtain⟨hn,h⟩:=h;have hT:Zp c=c.2.2.2.2.1:=ZSr hn;rw[<-hT] at hn h;have hy:¬(Zp c=8\/Zp c=9\/Zp c=1)->y.2.1=c.2.2.2.1/\y.2.2.2.1=ZCa (Zp c):=λhx=>by
  rcases h with h|⟨l,z,e,h1,h2⟩
  ·exact absurd h hx
  ·have:=List.append_inj' e rfl;obtain⟨_,e2⟩:=this;simp only[List.cons.injEq,and_true] at e2;rw[e2];exact⟨h1,h2⟩
 generalize Zp c=n at hn hy;have hj:∀f:ITMT->ITMT,ZcJ (it'++[y]) f=it'++[f y]:=ZbY it' y;have hg:∀k:Int,n=k->ZCa k+1=k->¬(k=8\/k=9\/k=1)->IntKind.wrap .i64 (y.2.2.2.1+1)=n:=λk hk h1 h2=>by subst hk;rw[(hy h2).2,h1,wrap_i64 _ (by omega) (by omega)]
 have e:n=1\/n=2\/n=3\/n=4\/n=5\/n=6\/n=7\/n=8\/n=9:=by omega
 rcases e with e|e|e|e|e|e|e|e|e
 ·subst e;rfl
 ·have w:=hg 2 e rfl (by decide);subst e;show _=ZcJ _ _;rw[hj,w];rfl
 ·have w:=hg 3 e rfl (by decide);subst e;show _=ZcJ _ _;rw[hj,w];rfl
 ·have w:=hg 4 e rfl (by decide);subst e;show _=ZcJ _ _;rw[hj,w];rfl
 ·have w:=hg 5 e rfl (by decide);subst e;show _=ZcJ _ _;rw[hj,w];rfl
 ·have w:=hg 6 e rfl (by decide);subst e;show _=ZcJ _ _;rw[hj,w];rfl
 ·subst e;show _=ZcJ _ _;rw[hj,(hy (by decide)).1];rfl
 ·subst e;show _=ZlE _ _ _ _;unfold ZlE;rw[List.getLast?_concat];dsimp only;rw[hj];rfl
 ·subst e;show _=ZlE _ _ _ _;unfold ZlE;rw[List.getLast?_concat];dsimp only;rw[hj];rfl
theorem Zkj (s:TC) (l:List TC) (x:TC):ZCD s (l++[x])=x:=by simp[ZCD]
theorem l1:((1:Int)==1)=true/\((1:Int)==10)=false/\((1:Int) !=10)=true:=by decide
theorem l10:((10:Int)==1)=false/\((10:Int)==2)=false/\((10:Int)==3)=false/\((10:Int)==4)=false/\((10:Int)==5)=false/\((10:Int)==6)=false/\((10:Int)==7)=false/\((10:Int)==8)=false/\((10:Int)==9)=false/\((10:Int)==10)=true/\((10:Int) !=10)=false:=by decide
theorem ZZz (l:List INPT) (j:Nat) (b:BRDT) (s0:SYST) (ZJ:TC) (st:STT) (n:Nat) (h:RunOk b st n) (q:RbOk st) (hj:j<l.length) (hl:l.length<=100000) (hn:n<=200000) (hpp:inR .u8 b.2.2.2.1) (i:INPT) (hi:R.get Zb7 l (j:Int)=i):
  (Zdk (tupB l (j:Int) b s0 ZJ st)).val=some (Go1.cont (tupB l ((j+1:Nat):Int) b s0 ZJ (Zc8 b ZJ st i))):=by
 have hms:=mst;obtain⟨s,tr,it,ev,cp⟩:=st;obtain⟨g,m,o,k,t,hitl,hev,hcp,ne⟩:=h;obtain⟨hsrc,hlast⟩:=q;simp only at g m o k t hitl hev hcp ne hsrc hlast;have d:decide ((j:Int)<(l.length:Int))=true:=YA (by omega);have hin:Ze (j:Int) l.length=true:=ZF.2 ⟨by omega,by omega⟩;have w:IntKind.wrap .i64 ((j:Int)+1)=((j+1:Nat):Int):=by rw[wrap_i64 _ (by omega) (by omega)];omega
 obtain⟨p,hp⟩:∃p,IntKind.wrap .u8 s.1.2.2.2.1.2.1=p:=⟨_,rfl⟩;have hpr:inR .u8 p:=by rw[<-hp];exact Zaw .u8 _
 obtain⟨p1,p2⟩:=Z0k hpr hpp;have b4:∀y:Int×Int,Nat.ble (List.length (s.2.2.2.2.2++[y])) most=true:=λy=>Zai (by simp;omega)
 have b5:smC s.2.1=true:=smCb (by omega);have b6:∀t v,smC (Zbn b.2.1 s.2.1 t v)=true:=λt v=>smCb (by have:=ZnD b.2.1 s.2.1 t v;omega)
 have b7:∀c1 c2:Bool,∀t v,smC (bif c1 then bif c2 then Zbn b.2.1 s.2.1 t v else s.2.1 else s.2.1)=true:=λc1 c2 t v=>by cases c1<;>cases c2<;>first|exact b6 t v|exact b5
 have b9:Zjt s.1=true:=ZdT.2 (by omega);have btr:∀x:PINT,Nat.ble (tr++[x]).length most=true:=λx=>Zai (by simp;omega)
 have bev:∀x:EVTT,Nat.ble (ev++[x]).length most=true:=λx=>Zai (by simp;omega)
 have bev2:∀(c:Bool) (x y:EVTT),Nat.ble ((bif c then ev++[x] else ev)++[y]).length most=true:=λc x y=>Zai (by cases c<;>simp<;>omega)
 have bcp:∀x:TC,Nat.ble (cp++[x]).length most=true:=λx=>Zai (by simp;omega)
 have bcp2:∀(c:Bool) (x y:TC),Nat.ble ((bif c then cp++[x] else cp)++[y]).length most=true:=λc x y=>Zai (by cases c<;>simp<;>omega)
 have bgt:Nat.ble (List.length s.1.2.2.1) most=true:=Zai (by omega);have bit:∀x:ITMT,Nat.ble (it++[x]).length most=true:=λx=>Zai (by simp;omega)
 have n1:decide (iN ([]:List ITMT).length>0)=false:=rfl;have n2:Ze (IntKind.wrap .i64 (iN ([]:List ITMT).length-1)) ([]:List ITMT).length=false:=rfl;obtain⟨Q,hQ⟩:∃Q,(Zv b s i).2.2.1=Q:=⟨_,rfl⟩;have hQ':(bif b.2.2.2.2.2.1 then s.2.2.1 else ZgW s.2.2.1 i.2.2.2.2.2.2.2.2.1)=Q:=by rw[<-hQ];unfold Zv;cases b.2.2.2.2.2.1<;>rfl
 obtain⟨L,hL⟩:∃L,Zb5 b (Zv b s i) i=L:=⟨_,rfl⟩;have hL':=(Z6M b s i g).symm.trans hL;have hLr:L.2.2.1=i.2.2.1:=by rw[<-hL];rfl
 obtain⟨x71,h71⟩:∃x,(!b.2.2.2.2.2.1&&decide (IntKind.wrap .u8 (p-b.2.2.2.1)<2))=x:=⟨_,rfl⟩;obtain⟨x72,h72⟩:∃x,(IntKind.wrap .u8 (p-b.2.2.2.1)==1)=x:=⟨_,rfl⟩;have e71:(ZbI b p).2=x71:=by rw[Z3Q,<-h71,p1]
 have e72:x71=true->(ZbI b p).1=x72:=λe=>by rw[<-h71,Yb] at e;rw[Z3Q,<-h72,p2 e.2]
 have hnn:it=[]->Zp s.1=1:=ne;have hsn:∀it' y,it=it'++[y]->IntKind.wrap .i64 (iN (it'++[y]).length-1)=(it'.length:Int)/\decide (iN (it'++[y]).length>0)=true:=λit' y e=>by rw[e] at hitl;exact⟨ZnE it' y (by simp at hitl;omega),YA (by simp only[iN,Le,Yd,List.length_singleton];omega)⟩
 have hit:it=[]\/∃it' y,it=it'++[y]:=by
  rcases Yao it with e|⟨it',y,e⟩
  ·exact .inl e
  ·exact .inr ⟨it',y,by rw[e,Yap]⟩
 cases hr:i.2.2.1
 ·obtain⟨D,hD⟩:∃D,(busS b (Zv b s i) i).2=D:=⟨_,rfl⟩;have hb:=bus_p b (Zv b s i) i (!i.2.2.1&&(Zp s.1==3&&Zbi s.1.2.2.2.1.1)) (s.1.2.2.2.1.1==8||s.1.2.2.2.1.1==9) x71 x72 rfl rfl
   (by show _=(ZbI b (IntKind.wrap .u8 s.1.2.2.2.1.2.1)).2;rw[hp,e71]) (λe=>by show _=(ZbI b (IntKind.wrap .u8 s.1.2.2.2.1.2.1)).1;rw[hp,e72 e]) (λe=>by rw[<-h71,e];rfl)
  rw[hQ,hr] at hb;have hD2:(bif Zp s.1==3&&Zbi s.1.2.2.2.1.1 then bif decide (s.1.2.2.2.1.1>=1)&&decide (s.1.2.2.2.1.1<=5) then ZfM b.2.1 s.2.1 s.1.2.2.2.1.2.1 else bif s.1.2.2.2.1.1==8||s.1.2.2.2.1.1==9 then bif !b.2.2.2.2.2.1 then (vAck Q).2 else i.2.2.2.2.2.2.2.2.2 else bif x71 then (Zmw Q x72).2 else bif decide (IntKind.wrap .u8 (p-b.2.2.2.2.1)<4) then Zjk s.2.2.2.1 (IntKind.wrap .i64 (IntKind.wrap .u8 (p-b.2.2.2.2.1))) else i.2.2.2.2.2.2.2.2.2 else 0)=D:=by rw[<-hD,hb,Z3R,<-hp];rfl
  obtain⟨B,hB⟩:∃B,(busS b (Zv b s i) i).1.2.2.1=B:=⟨_,rfl⟩;have hB2:(bif Zp s.1==3&&Zbi s.1.2.2.2.1.1 then bif decide (s.1.2.2.2.1.1>=1)&&decide (s.1.2.2.2.1.1<=5) then Q else bif s.1.2.2.2.1.1==8||s.1.2.2.2.1.1==9 then bif !b.2.2.2.2.2.1 then (vAck Q).1 else Q else bif x71 then (Zmw Q x72).1 else Q else Q)=B:=by rw[<-hB,hb];rfl
  obtain⟨Wm,hm⟩:∃z,(bif Zp s.1==3&&Zce s.1.2.2.2.1.1 then bif s.1.2.2.2.1.1 !=7 then Zbn b.2.1 s.2.1 s.1.2.2.2.1.2.1 s.1.2.2.2.1.2.2.1 else s.2.1 else s.2.1)=z:=⟨_,rfl⟩;have b10:smC Wm=true:=by rw[<-hm];exact b7 _ _ _ _
  obtain⟨Wd,hwd⟩:∃z,(bif Zp s.1==3&&Zce s.1.2.2.2.1.1 then bif s.1.2.2.2.1.1 !=7 then s.2.2.2.1 else bif x71 then s.2.2.2.1 else bif decide (IntKind.wrap .u8 (p-b.2.2.2.2.1)<4) then Zgb s.2.2.2.1 (IntKind.wrap .i64 (IntKind.wrap .u8 (p-b.2.2.2.2.1))) s.1.2.2.2.1.2.2.1 else s.2.2.2.1 else s.2.2.2.1)=z:=⟨_,rfl⟩;obtain⟨kM,kP,kS,kC⟩:=Z1U b s i hr hL hD hB rfl rfl hp e71 e72 (Z3R b p) hm hwd;obtain⟨M,hM⟩:∃M,(ZhD (Zcu s.1 L D)&&ZQ Wd)=M:=⟨_,rfl⟩;rw[hM] at kM kS kC;have hM':((Zcu s.1 L D).2.2.2.2.2.2.2.2.2.2.2.2.2.2.2.1&&ZQ Wd)=M:=hM;rw[hr] at hLr;have hP1:(Zcu s.1 L D).1=Zp s.1:=by rw[Z3k,hLr];rfl
  have hn9:1<=s.1.2.2.2.2.1/\s.1.2.2.2.2.1<=9:=hlast.1;obtain⟨c1,c2,c3,c4⟩:=Z80 s.1 L D hn9 hLr;have hT10:(Zp s.1==10)=false:=by have:=ZSr hn9;show (ZS s.1.2.2.2.2.1==10)=false;rw[this];simp;omega
  have hT10':(Zp s.1 !=10)=true:=by rw[bne,hT10];rfl
  rw[hr] at hL';have hR:Zc8 b ZJ (s,tr,it,ev,cp) i=((Za1 b s i).1,tr++[Zcu s.1 L D],Zi3 (it) s.1 (Zal s.1 (Zp s.1) D) (Zp s.1),evE ev s.1 L D (Za1 b s i).2.2.2.2.1 M,evC cp ZJ s.1 (ZX s.1 L D) L D M):=by
   have hnow:nowS s i=Zp s.1:=by unfold nowS;rw[hr];rfl
   have hcc:(Za1 b s i).1.1=ZX s.1 L D:=by rw[kS]
   show ((Za1 b s i).1,tr++[pinS b s i],Zi3 (it) s.1 (Zal s.1 (nowS s i) (busS b (Zv b s i) i).2) (nowS s i),evE ev s.1 (Zb5 b (Zv b s i) i) (busS b (Zv b s i) i).2 (Za1 b s i).2.2.2.2.1 (Zed b s i),evC cp ZJ s.1 (Za1 b s i).1.1 (Zb5 b (Zv b s i) i) (busS b (Zv b s i) i).2 (Zed b s i))=_;rw[hnow,hcc,kP,kM,hL,hD]
  have hMv:(M&&ZQ Wd)=M:=by rw[<-hM];cases ZhD (Zcu s.1 L D)<;>cases ZQ Wd<;>rfl
  have hMF:M=true->(finS s.1 L D).2=false:=λe=>by rw[<-hM,Yb] at e;have h8:=(ZpO e.1).2;rw[ZSr hn9] at h8;unfold finS rdS;rw[hLr,h8];rfl
  rcases hit with rfl|⟨it',y,rfl⟩
  have hT1:=hnn rfl;have hP0:(Zcu s.1 L D).1=1:=by rw[hP1,hT1]
  have hI:Zi3 [] s.1 (Zal s.1 (Zp s.1) D) (Zp s.1)=[]++[(1,Zal s.1 (Zp s.1) D,0,1,s.1.1.2.2.1,s.1.1.2.2.2.2.2.2.2.2.2.2.2.2)]:=by rw[hT1];rfl
  unfold tupB Zdk;simp only[RT.val,hi,hr,hp,d,hin,w,g,b4,b5,b7,b9,btr,bev,bev2,bcp,bcp2,bgt,bit,Z1f,ZmG,ZL2,ZnA,Znz,clkX,pstR,hQ',hL',h71,h72,ZuY,Znc,ZaV,Zao,Bool.and_assoc,Yan,YV,Yh,Ys,Ye,Yl,Yi,Yu,YH,YT,YL,Bool.not_or_self,Bool.or_not_self,Ya,Yc,hD2,hB2,hm,b10,hwd,hM',hP0,l1,n1,n2];rw[c3,hR,hI,hMv]
  rotate_left
  obtain⟨w0,w1⟩:=hsn it' y rfl;have w2:=λz:ITMT=>ZmT it' z
  have w3:=λz:ITMT=>Znu (r:=Zgi) it' z
  have w4:=λz:ITMT=>ZhW it' y z
  have w5:=λz z2:ITMT=>ZhW it' z z2
  unfold tupB Zdk;simp only[RT.val,hi,hr,hp,d,hin,w,g,b4,b5,b7,b9,btr,bev,bev2,bcp,bcp2,bgt,bit,Z1f,ZmG,ZL2,ZnA,Znz,clkX,pstR,hQ',hL',h71,h72,ZuY,Znc,ZaV,Zao,Bool.and_assoc,Yan,YV,Yh,Ys,Ye,Yl,Yi,Yu,YH,YT,YL,Bool.not_or_self,Bool.or_not_self,Ya,Yc,hD2,hB2,hm,b10,hwd,hM',hP1,hT10,hT10',w0,w1,w2,w3,w4,w5];rw[c3,ZP5 s.1 it' y D hlast,hR,hMv];all_goals
    unfold evE evC;simp only[kS,kC,hLr,c1,c4,Yc];cases hF:(finS s.1 L D).2
    ·cases M
     ·rfl
     ·simp only[Ya,Yc,Zkj];rfl
    ·have hMz:M=false:=by
      cases M
      ·rfl
      ·rw[hMF rfl] at hF;simp at hF
     obtain⟨g1,g2⟩:=c2 hF;have hk:(bif s.1.2.1==0 then (1:Int) else bif s.1.2.1==5 then 2 else 3)=ZQQ s.1.2.1:=Z1j hsrc;rw[hMz,g1,g2,hk];simp only[Ya,Yc,Zkj];rfl
 ·obtain⟨r1,r2,r3⟩:=ZYq b s i hr;rw[hL] at r2;have hP1:(Zcu s.1 L 0).1=10:=by rw[Z3k,hLr,hr];rfl
  have hH:(Zcu s.1 L 0).2.2.2.2.2.2.2.2.2.2.2.2.2.2.2.1=false:=by
   cases e:(Zcu s.1 L 0).2.2.2.2.2.2.2.2.2.2.2.2.2.2.2.1
   ·rfl
   ·have:=(ZpO e).1;rw[hLr,hr] at this;simp at this
  have hR:Zc8 b ZJ (s,tr,it,ev,cp) i=((ZX s.1 L 0,s.2.1,Z4I Q 0,(s.2.2.2.1.1,s.2.2.2.1.2.1,0),Zbz s,s.2.2.2.2.2),tr++[Zcu s.1 L 0],ZlE it 4 s.1 (4,(0,0,0,0),0,1,ZXA s.1,sodC s.1),evE ev s.1 L 0 (Za1 b s i).2.2.2.2.1 false,evC cp ZJ s.1 (ZX s.1 L 0) L 0 false):=by
   have hnow:nowS s i=10:=by unfold nowS;rw[hr];rfl
   have hcc:(Za1 b s i).1.1=ZX s.1 L 0:=by rw[r2]
   have hp2:pinS b s i=Zcu s.1 L 0:=by unfold pinS;rw[(ZkA b (Zv b s i) i).1,hL,r1];rfl
   show ((Za1 b s i).1,tr++[pinS b s i],Zi3 it s.1 (Zal s.1 (nowS s i) (busS b (Zv b s i) i).2) (nowS s i),evE ev s.1 (Zb5 b (Zv b s i) i) (busS b (Zv b s i) i).2 (Za1 b s i).2.2.2.2.1 (Zed b s i),evC cp ZJ s.1 (Za1 b s i).1.1 (Zb5 b (Zv b s i) i) (busS b (Zv b s i) i).2 (Zed b s i))=_;rw[hnow,hcc,hp2,r3,hL,r1,r2,hQ];rfl
  rw[hr] at hL';rcases hit with rfl|⟨it',y,rfl⟩
  ·unfold tupB Zdk;simp only[RT.val,hi,hr,hp,d,hin,w,g,b4,b5,b7,b9,btr,bev,bev2,bcp,bcp2,bgt,bit,Z1f,ZmG,ZL2,ZnA,Znz,clkX,pstR,hQ',hL',h71,h72,ZuY,Znc,ZaV,Zao,Bool.and_assoc,Yan,YV,Yh,Ys,Ye,Yl,Yi,Yu,YH,YT,YL,Bool.not_or_self,Bool.or_not_self,Ya,Yc,hP1,hH,l10,n1,n2];rw[hR];unfold evE evC ZlE;simp only[hLr,hr,Ya,Zkj,List.getLast?_nil];rfl
  ·obtain⟨w0,w1⟩:=hsn it' y rfl;have w2:=λz:ITMT=>ZmT it' z
   have w3:=λz:ITMT=>Znu (r:=Zgi) it' z
   have w4:=λz:ITMT=>ZhW it' y z
   have w5:=λz z2:ITMT=>ZhW it' z z2
   unfold tupB Zdk;simp only[RT.val,hi,hr,hp,d,hin,w,g,b4,b5,b7,b9,btr,bev,bev2,bcp,bcp2,bgt,bit,Z1f,ZmG,ZL2,ZnA,Znz,clkX,pstR,hQ',hL',h71,h72,ZuY,Znc,ZaV,Zao,Bool.and_assoc,Yan,YV,Yh,Ys,Ye,Yl,Yi,Yu,YH,YT,YL,Bool.not_or_self,Bool.or_not_self,Ya,Yc,hP1,hH,l10,w0,w1,w2,w3,w4,w5];rw[hR];unfold evE evC ZlE;simp only[hLr,hr,Ya,Zkj,List.getLast?_concat,ZbY];rfl
theorem ZSD (b:BRDT) (s0:TC):∀(l:List INPT) (st:STT),RbOk st->RbOk (ZbZ b s0 st l)
 |[],st,h=>h
 |i::l,st,h=>ZSD b s0 l (Zc8 b s0 st i) (Z4Y b s0 st i h)
theorem Z4X (b:BRDT) (l:List INPT) (s0:SYST) (ZJ:TC) (st:STT) (h:RunOk b st 0) (q:RbOk st) (hpp:inR .u8 b.2.2.2.1) (hl:l.length<=70000):
  runF false Zdk (λ_=>1000000000000) (tupB l 0 b s0 ZJ st)=some (false,tupB l (l.length:Int) b s0 ZJ (ZbZ b ZJ st l)):=by
 obtain⟨r,hr,h1⟩:=ZM (fl:=false) (t:=Zdk) (fuel:=λ_=>1000000000000)
  (λa=>∃i:Nat,i<=l.length/\a=tupB l (i:Int) b s0 ZJ (ZbZ b ZJ st (l.take i)))
  (λa=>Int.toNat (a.2.1-a.2.2.1)) (λr=>r=(false,tupB l (l.length:Int) b s0 ZJ (ZbZ b ZJ st l)))
  (by
   rintro a ⟨i,hi,rfl⟩;by_cases hlt:i<l.length
   ·left;have hk:=ZlQ b ZJ (l.take i) st 0 h;refine⟨_,ZZz l i b s0 ZJ (ZbZ b ZJ st (l.take i)) _ hk (ZSD b ZJ _ _ q) hlt (by omega) (by simp;omega) hpp _ rfl,⟨i+1,hlt,?_⟩,by show Int.toNat ((l.length:Int)-((i+1:Nat):Int))<Int.toNat ((l.length:Int)-(i:Int));omega⟩;have e:ZbZ b ZJ st (l.take (i+1))=Zc8 b ZJ (ZbZ b ZJ st (l.take i)) (R.get Zb7 l (i:Int)):=by rw[Zz6 l Zb7.Df i hlt];simp only[ZbZ,List.foldl_append,List.foldl_cons,List.foldl_nil];rfl
    rw[e]
   ·right;left;have e:i=l.length:=by omega
    subst e;have d:decide ((l.length:Int)<(l.length:Int))=false:=Y6 (by omega);rw[List.take_length]
    exact⟨_,by unfold tupB Zdk;simp only[RT.val,d,Yc],rfl⟩)
  (tupB l 0 b s0 ZJ st) ⟨0,Yt _,rfl⟩ (by show Int.toNat ((l.length:Int)-0)<_;omega)
 rw[h1] at hr;exact hr
theorem Z6X (b:BRDT) (hw:wNew b=(newS b,0)):RbOk (Zf0 b):=by unfold Zf0;rw[hw];exact⟨⟨Int.le_refl 0,(by decide:(0:Int)<=5)⟩,Zki _ (.inr (.inr rfl))⟩
theorem ZC8 (b:BRDT) (l:List Int) (hg:smG b.2.1=true) (hm:b.2.2.2.2.2.2.length<=100000) (hl:l.length<=4000) (hpp:inR .u8 b.2.2.2.1):(Zuq b l).val=some (Zc7 b (decX l)):=by
 have hms:=mst;obtain⟨e1,e2⟩:=ZQm b;have hc:=smCb (l:=b.2.2.2.2.2.2) (by omega);rw[ZnG b hg hc] at e2;have hn:=ZDn b hg hm;have hb:Nat.ble (List.length b.2.2.2.2.2.2) most=true:=Zai (by omega);have hd:ZD7 l=true:=by unfold ZD7;rw[YF];exact hl
 unfold Zc7;rw[hn.2.1];cases hx:ZcF b !=0
 ·have h0:ZcF b=0:=by simpa using hx
  have hnew:=Z8A b hg hm (by rw[hn.2.1,hx]);have hi:=(hn.2.2 (by rw[hn.2.1,h0])).1;have hf:=ZlQ b (Zc5 b) (decX l) (Zf0 b) 0 hi;have hld:=dec_len l;have hr:=Z4X b (decX l) ZnC (Zc5 b) (Zf0 b) hi (Z6X b hnew) hpp (by omega);have himg:=Zh8 (ZmM.1 (ZQ2 b hg hc h0));have hs:tupB (decX l) 0 b ZnC (Zc5 b) (Zf0 b)=(decX l,iN (decX l).length,0,newX b.1,b.2.2.2.2.2.2,Z5C,(0,0,0),0,b,ZnC,(newX b.1).1,[],[],[],[],[],()):=by unfold Zc5 Zf0;rw[hnew];unfold newS;rw[himg];rfl
  rw[hs] at hr;unfold ZnC Zut at hr;simp only[Zuq,RT.val,e1,e2,hx,hb,hd,hr,okB,getO,Ye,Yi,Yh,Ya,Yc];obtain⟨st,hst⟩:∃st,ZbZ b (Zc5 b) (Zf0 b) (decX l)=st:=⟨_,rfl⟩;rw[hst] at hf|-;have hk:=hf.k;have he:=hf.ev;have hcp:=hf.cp;have b1:Nat.ble (List.length st.1.1.2.2.1) most=true:=Zai (by omega);have b2:∀x:EVTT,Nat.ble (List.length (st.2.2.2.1++[x])) most=true:=λx=>Zai (by simp;omega)
  have b3:∀x:TC,Nat.ble (List.length (st.2.2.2.2++[x])) most=true:=λx=>Zai (by simp;omega)
  have hpb:∀c,Zyx c=Zhi c:=λ_=>rfl
  unfold tupB;simp only[b1,b2,b3,hpb,Yh,Ye,Yi,Ya];unfold endS;cases Zhi st.1.1<;>rfl
 ·simp only[Zuq,RT.val,e1,e2,hx,Ye,Ys,Yh,Ya];rfl
def Zmy (b:BRDT) (l:List Int):Bool:=smG b.2.1&&(Nat.ble b.2.2.2.2.2.2.length 100000&&Nat.ble l.length 4000)
theorem ZJx {b:BRDT} {l:List Int} (h:Zmy b l=true):smG b.2.1=true/\b.2.2.2.2.2.2.length<=100000/\l.length<=4000:=by simpa only[Zmy,Yb,YF] using h
def ZYA:En:=Zg Z14 ZQH (λa=>some (Zmy a.1 a.2)) (λa=>Zc7 a.1 (decX a.2))
theorem ZYz:Za Tryz.prog 23 ZYA:=ZMx.pure_congr
 (λa h hp=>by
  obtain⟨h1,h2,h3⟩:=ZJx (b:=a.1) (l:=a.2) (by simpa using hp);have hv:=ZC8 a.1 a.2 h1 h2 h3 h.1.2.2.2.1
  simp[ZMz,hv,okB])
 (λa h hp=>by
  obtain⟨h1,h2,h3⟩:=ZJx (b:=a.1) (l:=a.2) (by simpa using hp);have hv:=ZC8 a.1 a.2 h1 h2 h3 h.1.2.2.2.1
  simp only[Z1Z,hv,getO])
end
end Go.Proofs.YtpnjbfjomebppaaGreat
open Go.Proofs.Tryz (prog)
namespace Go.Proofs.YtpnjbfjomebppaaGreat
noncomputable section
abbrev ZAQ:List Sh:=[So (R.sl Zgi),So (R.sl Zgi)]
def ZNl:LS:={n:=26,Sl:=[(0,.code (So (R.sl Zgi))),(1,.code (So (R.sl Zgi))),(4,.code (So R.bool)),(12,.code (So Kc)),(13,.code (So Kc))],Bx:=[],Sg:=[]}
def ZfP (a:List ITMT×List ITMT×Bool×Int×Int×PUnit):RT (Option (Go1 (List ITMT×List ITMT×Bool×Int×Int×PUnit))):=
 let x1:= !Ze a.2.2.2.2.1 (Le a.1)||Ze a.2.2.2.2.1 (Le a.2.1)
 let x2:ITMT:=R.get Zgi a.1 a.2.2.2.2.1
 let x3:ITMT:=R.get Zgi a.2.1 a.2.2.2.2.1
 let x18:QT34:=(a.2.2.2.1,a.2.2.2.2.1,PUnit.unit)
 .br (decide (a.2.2.2.2.1<a.2.2.2.1)) (.br (!x1||Ze a.2.2.2.2.1 (Le a.1)) (.br (x1) (.br (!(R.eqf Zgi x2 x3 true)) (Ls (Go1.ret (a.1,a.2.1,false,x18))) (Ls (Go1.cont (a.1,a.2.1,a.2.2.1,a.2.2.2.1,i64.wrap (a.2.2.2.2.1+1),PUnit.unit)))) Ln) Ln) (Ls (Go1.brk (a.1,a.2.1,a.2.2.1,x18)))
def Ztu:Ora:=ZaX true ZNl ZfP (λa=>1000000000000)
theorem ZAR:ZaF (envX prog [] [] 63 8) (.block 0 (.loop (Z4 Tryz.f114.body 0))) Ztu:=
 loopP trivial
def ZjB (a:List ITMT) (b:List ITMT):RT (Option (Bool)):=
 let x1:=runF true ZfP (λa_1=>1000000000000) (a,b,false,iN (Le a),0,())
 let x2:=getO (false,a,b,false,iN (Le a),0,()) x1
 .br (iN (Le a) !=iN (Le b)) (Ls (false)) (.br (okB x1) (.br x2.1 (Ls x2.2.2.2.1) (Ls (true))) Ln)
def ZiS (a:List ITMT) (b:List ITMT):Bool:=getO Zqd.Df (ZjB a b).val
def Zm2 (a:List ITMT) (b:List ITMT):Bool:=okB (ZjB a b).val
def ZJK:En:=Zg ZAQ Zqd (λa=>some (Zm2 a.1 a.2)) (λa=>ZiS a.1 a.2)
theorem ZNk:Za prog 114 ZJK:=
 pureP 63 [] [(0,Ztu)] _ _ trivial Tryz.func114 Tryz.call114 ⟨ZAR,Tv⟩
def ZbF:En:=.tree (Zt (envX prog [] [] 31 8) Tryz.f115)
theorem ZcA:Za prog 115 ZbF:=ZL trivial Tryz.func115 rfl (by kernel_rfl) Tryz.call115 trivial
abbrev Zzx:List Sh:=[So (R.sl Zk4),So (R.sl Zk4)]
def ZMF:LS:={n:=87,Sl:=[(1,.code (So (R.sl Zk4))),(4,.code (So R.bool)),(13,.code (So (R.sl Zk4))),(14,.code (So Kc)),(15,.code (So Kc))],Bx:=[],Sg:=[]}
def Zfz (a:List EVTT×Bool×List EVTT×Int×Int×PUnit):RT (Option (Go1 (List EVTT×Bool×List EVTT×Int×Int×PUnit))):=
 let x1:EVTT:=R.get Zk4 a.2.2.1 a.2.2.2.2.1
 let x2:EVTT:=R.get Zk4 a.1 a.2.2.2.2.1
 let x3:=x1.2
 let x4:=x2.2
 let x5:=x3.2
 let x6:=x4.2
 let x7:=x5.2
 let x8:=x7.1
 let x9:=x6.2
 let x10:=x9.1
 let x25:=x7.2
 let x26:=x9.2
 let x27:=x25.2
 let x28:=x26.2
 let x29:=x27.2
 let x30:=x28.2
 let x31:=x29.2
 let x32:=x30.2
 let p1:=(!x31.1==x32.1)::(!x29.1==x30.1)::(!x27.1==x28.1)::(!x25.1==x26.1)::(!(R.eqf Zsk x8 x10 true))::(!ByteArray.toList (ZAa x5.1)==ByteArray.toList (ZAa x6.1))::(x3.1 !=x4.1)::(x1.1 !=x2.1)::[]
 let x33:=x31.2
 let x34:=x32.2
 let x35:List EVTT×Int×Int×PUnit:=(a.2.2.1,a.2.2.2.1,a.2.2.2.2.1,PUnit.unit)
 .br (decide (a.2.2.2.2.1<a.2.2.2.1)) (.br (!Ze a.2.2.2.2.1 (Le a.2.2.1)||Ze a.2.2.2.2.1 (Le a.1)) (.br (Ze a.2.2.2.2.1 (Le a.2.2.1)) (.br (orR p1 (!(x33.1==x34.1&&(x33.2==x34.2&&true)))) (Ls (Go1.ret (a.1,false,x35))) (Ls (Go1.cont (a.1,a.2.1,a.2.2.1,a.2.2.2.1,i64.wrap (a.2.2.2.2.1+1),PUnit.unit)))) Ln) Ln) (Ls (Go1.brk (a.1,a.2.1,x35)))
def Zsz:Ora:=ZaX true ZMF Zfz (λa=>1000000000000)
theorem Zzy:ZaF (envX prog [(115,ZbF)] [] 255 8) (.block 0 (.loop (Z4 Tryz.f55.body 0))) Zsz:=
 loopP ⟨ZcA,Tv⟩
def Zjd (a:List EVTT) (b:List EVTT):RT (Option (Bool)):=
 let x1:=runF true Zfz (λa_1=>1000000000000) (b,false,a,iN (Le a),0,())
 let x2:=getO (false,b,false,a,iN (Le a),0,()) x1
 .br (iN (Le a) !=iN (Le b)) (Ls (false)) (.br (okB x1) (.br x2.1 (Ls x2.2.2.1) (Ls (true))) Ln)
def ZkH (a:List EVTT) (b:List EVTT):Bool:=getO Zqd.Df (Zjd a b).val
def ZmI (a:List EVTT) (b:List EVTT):Bool:=okB (Zjd a b).val
def ZIC:En:=Zg Zzx Zqd (λa=>some (ZmI a.1 a.2)) (λa=>ZkH a.1 a.2)
theorem ZME:Za prog 55 ZIC:=
 pureP 255 [(115,ZbF)] [(0,Zsz)] _ _ ⟨ZcA,Tv⟩ Tryz.func55 Tryz.call55 ⟨Zzy,Tv⟩
abbrev Zsy:List Sh:=[Sh.agg (R.Pq (R.sl Zjx) (R.Pq (R.sl Zgi) (R.Pq (R.sl Zk4) (R.Pq (R.sl Zq) (R.Pq (R.Pq Zq (R.Pq Kc (R.Pq (R.sl Ka) (R.Pq (RY) (R.Pq Kc R.bool))))) (R.Pq rcCE (R.Pq Zab (R.Pq (R.Pq Kb (R.Pq Ka Kc)) (R.Pq Kc (R.sl (R.Pq Ka Ka))))))))))),Sh.agg (R.Pq (R.sl Zjx) (R.Pq (R.sl Zgi) (R.Pq (R.sl Zk4) (R.Pq (R.sl Zq) (R.Pq (R.Pq Zq (R.Pq Kc (R.Pq (R.sl Ka) (R.Pq (RY) (R.Pq Kc R.bool))))) (R.Pq rcCE (R.Pq Zab (R.Pq (R.Pq Kb (R.Pq Ka Kc)) (R.Pq Kc (R.sl (R.Pq Ka Ka)))))))))))]
def ZgS (a:RUNT) (b:RUNT):RT (Option (Bool)):=
 let x1:= !ZdW a.1 b.1||Zm2 a.2.1 b.2.1
 let x2:= !x1
 let x3:= !ZdW a.1 b.1||(!ZiS a.2.1 b.2.1||ZmI a.2.2.1 b.2.2.1)
 let x4:= !x3
 let x5:= !ZdW a.1 b.1||(!ZiS a.2.1 b.2.1||(!ZkH a.2.2.1 b.2.2.1||ZM5 a.2.2.2.1))
 let p1:=(!ZiM Zq a.2.2.2.1 b.2.2.2.1)::(!ZkH a.2.2.1 b.2.2.1)::(!ZiS a.2.1 b.2.1)::(!ZdW a.1 b.1)::(!x5)::x4::x2::(!ZcY a.1 b.1)::[]
 .br (orR p1 (ZmH a.2.2.2.2 b.2.2.2.2)) (.br (!ZcY a.1 b.1||(x2||(x4||x5))) (.br (!ZcY a.1 b.1||(x2||x3)) (.br (!ZcY a.1 b.1||x1) (.br (ZcY a.1 b.1) (Ls (ZdW a.1 b.1&&(ZiS a.2.1 b.2.1&&(ZkH a.2.2.1 b.2.2.1&&(ZiM Zq a.2.2.2.1 b.2.2.2.1&&Zuz a.2.2.2.2 b.2.2.2.2))))) Ln) Ln) Ln) Ln) Ln
def ZhL (a:RUNT) (b:RUNT):Bool:=getO Zqd.Df (ZgS a b).val
def Zfy (a:RUNT) (b:RUNT):Bool:=okB (ZgS a b).val
def Zzw:En:=Zg Zsy Zqd (λa=>some (Zfy a.1 a.2)) (λa=>ZhL a.1 a.2)
theorem ZDk:Za prog 54 Zzw:=
 pureP 31 [(24,Ztt),(39,ZzA),(52,ZIB),(55,ZIC),(114,ZJK)] [] _ _ ⟨ZAN,ZDl,ZMD,ZME,ZNk,Tv⟩ Tryz.func54 Tryz.call54 trivial
abbrev ZL5:List Sh:=[So (R.sl Kc),So (R.sl Ka)]
def ZlC (n:List Int) (raw:List Int):RT (Option (Bool)):=
 let x1:=(Zc7 (Zaa n 120).1 (decX (Zaa n 120).2)).2 !=(wRun (Zaa n 120).1 (Zaa n 120).2).2
 let x2:= !Zmy (Zaa n 120).1 (Zaa n 120).2||(!ZzB (Zaa n 120).1 (Zaa n 120).2||(x1||Zfy (Zc7 (Zaa n 120).1 (decX (Zaa n 120).2)).1 (wRun (Zaa n 120).1 (Zaa n 120).2).1))
 let x3:= !x2
 let x4:= !Zmy (Zaa n 120).1 (Zaa n 120).2||ZzB (Zaa n 120).1 (Zaa n 120).2
 let x5:= !x4
 let x6:=x1|| !ZhL (Zc7 (Zaa n 120).1 (decX (Zaa n 120).2)).1 (wRun (Zaa n 120).1 (Zaa n 120).2).1
 let p1:=x6::(!Zmy (Zaa n 120).1 (Zaa n 120).2)::x5::x3::[]
 let x7:=(Zc7 (Zaa n 120).1 (decX raw)).2 !=(wRun (Zaa n 120).1 raw).2
 let x8:= !Zmy (Zaa n 120).1 raw||(!ZzB (Zaa n 120).1 raw||(x7||Zfy (Zc7 (Zaa n 120).1 (decX raw)).1 (wRun (Zaa n 120).1 raw).1))
 let x9:= !x8
 let p2:=x9::p1
 let x10:= !Zmy (Zaa n 120).1 raw||ZzB (Zaa n 120).1 raw
 let p3:=(!x10)::p2
 .br (!(decide (iN (Le n)>250)||decide (iN (Le raw)>200))||Z1l) (.br (decide (iN (Le n)>250)||decide (iN (Le raw)>200)) (Ls (true)) (.br (ZrE n 120) (.br (orR p3 (Zmy (Zaa n 120).1 raw)) (.br (orR p2 x10) (.br (orR p1 x8) (.br (x3||(x5||Zmy (Zaa n 120).1 (Zaa n 120).2)) (.br (x3||x4) (.br (x2) (.br (x6) (Ls (false)) (.br (x7|| !ZhL (Zc7 (Zaa n 120).1 (decX raw)).1 (wRun (Zaa n 120).1 raw).1) (Ls (false)) (.br (Z1l) (Ls (true)) Ln))) Ln) Ln) Ln) Ln) Ln) Ln) Ln)) Ln
def ZXo (n:List Int) (raw:List Int):Bool:=getO Zqd.Df (ZlC n raw).val
def ZHZ (n:List Int) (raw:List Int):Bool:=okB (ZlC n raw).val
def Z6P:En:=Zg ZL5 Zqd (λa=>some (ZHZ a.1 a.2)) (λa=>ZXo a.1 a.2)
theorem lBRuns_ok:Za prog 8 Z6P:=
 pureP 8191 [(23,ZYA),(45,Z8P),(46,ZXs),(53,Z7r),(54,Zzw)] [] _ _ ⟨ZYz,Z6Q,ZXr,Z39,ZDk,Tv⟩ Tryz.func8 Tryz.call8 trivial
theorem Zvc {τ:Type} {fl:Bool} (T:τ->RT (Option (Go1 τ))) (mk:Int->τ) (idx:τ->Int) (n:Nat) (hi:∀i,idx (mk i)=i) (hT:∀i:Nat,i<n->(T (mk i)).val=some (.cont (mk ((i+1:Nat):Int)))) (hE:(T (mk n)).val=some (.brk (mk n))) (hn:n<=1000000000):
  runF fl T (λ_=>1000000000000) (mk 0)=some (false,mk n):=by
 obtain⟨r,hr,h1⟩:=ZM (fl:=fl) (t:=T) (fuel:=λ_=>1000000000000)
  (λa=>∃i:Nat,i<=n/\a=mk i) (λa=>n-(idx a).toNat) (λr=>r=(false,mk n))
  (by
   rintro a ⟨i,h,rfl⟩;by_cases hlt:i<n
   ·exact .inl ⟨_,hT i hlt,⟨i+1,hlt,rfl⟩,by simp only[hi];omega⟩
   ·have e:i=n:=by omega
    subst e
    exact .inr (.inl ⟨_,hE,rfl⟩))
  (mk 0) ⟨0,Yt _,rfl⟩ (by simp only[hi];omega)
 rw[h1] at hr;exact hr
theorem ZXK {α:Type} {l:List α} {i:Nat} (h:i<l.length) (hl:l.length<=1000000000):decide ((i:Int)<iN l.length)=true/\Ze (i:Int) l.length=true/\IntKind.wrap .i64 ((i:Int)+1)=((i+1:Nat):Int):=by refine⟨by simp only[iN,Le,Yj];omega,ZF.2 ⟨by omega,by omega⟩,?_⟩;rw[wrap_i64 _ (by omega) (by omega)];omega
theorem ZX2 (n:Nat):decide ((n:Int)<iN n)=false:=by simp[iN,Le]
theorem Z4J (l:List PINT) (h:l.length<=1000000000):ZcY l l=true/\ZdW l l=true:=by
 have hr:=Zvc (fl:=true) ZdV (λi=>(l,l,false,iN l.length,i,())) (λa=>a.2.2.2.2.1) l.length (λ_=>rfl)
  (λi hi=>by
   obtain⟨k1,k2,k3⟩:=ZXK hi h
   simp only[ZdV,RT.val,k1,k2,k3,R.eqf_refl,Ya,Yc,Ye,Yi,Yh])
  (by simp only[ZdV,RT.val,ZX2,Yc]) h
 have hv:(ZfN l l).val=some true:=by simp only[ZfN,RT.val,hr,Yai,okB,getO,Yc,Ya]
 exact⟨by simp only[ZcY,hv,okB],by simp only[ZdW,hv,getO]⟩
theorem Z4K (l:List ITMT) (h:l.length<=1000000000):Zm2 l l=true/\ZiS l l=true:=by
 have hr:=Zvc (fl:=true) ZfP (λi=>(l,l,false,iN l.length,i,())) (λa=>a.2.2.2.2.1) l.length (λ_=>rfl)
  (λi hi=>by
   obtain⟨k1,k2,k3⟩:=ZXK hi h
   simp only[ZfP,RT.val,k1,k2,k3,R.eqf_refl,Ya,Yc,Ye,Yi,Yh])
  (by simp only[ZfP,RT.val,ZX2,Yc]) h
 have hv:(ZjB l l).val=some true:=by simp only[ZjB,RT.val,hr,Yai,okB,getO,Yc,Ya]
 exact⟨by simp only[Zm2,hv,okB],by simp only[ZiS,hv,getO]⟩
theorem Z4L (l:List EVTT) (h:l.length<=1000000000):ZmI l l=true/\ZkH l l=true:=by
 have hr:=Zvc (fl:=true) Zfz (λi=>(l,false,l,iN l.length,i,())) (λa=>a.2.2.2.2.1) l.length (λ_=>rfl)
  (λi hi=>by
   obtain⟨k1,k2,k3⟩:=ZXK hi h
   simp only[Zfz,RT.val,k1,k2,k3,R.eqf_refl,ZH2,Yav,Yai,ZaV,Zao,Ya,Yc,Ye,Yi,Yh,Y8,YV])
  (by simp only[Zfz,RT.val,ZX2,Yc]) h
 have hv:(Zjd l l).val=some true:=by simp only[Zjd,RT.val,hr,Yai,okB,getO,Yc,Ya]
 exact⟨by simp only[ZmI,hv,okB],by simp only[ZkH,hv,getO]⟩
theorem Zoi (b:BRDT) (l:List INPT) (hg:smG b.2.1=true) (hm:b.2.2.2.2.2.2.length<=100000) (hl:l.length<=1000):
  (Zc7 b l).1.1.length<=1000/\(Zc7 b l).1.2.1.length<=1000/\(Zc7 b l).1.2.2.1.length<=2001/\(Zc7 b l).1.2.2.2.1.length<=2001/\(Zc7 b l).1.2.2.2.2.2.1.length<=102000/\(Zc7 b l).1.2.2.2.2.2.2.2.2.2.length<=1000:=by
 obtain⟨_,_,h0⟩:=ZDn b hg hm;unfold Zc7;cases hx:(wNew b).2 !=0
 ·have h0:=(h0 (by simpa using hx)).1;have hf:=ZlQ b (Zc5 b) l (Zf0 b) 0 h0;rw[Yv] at hf;simp only[Yc];generalize ZbZ b (Zc5 b) (Zf0 b) l=st at hf;have ht:=hf.t;have hi:=hf.it;have he:=hf.ev;have hc:=hf.cp;have hmm:=hf.m;have ho:=hf.o;unfold endS;cases Zhi st.1.1
  ·exact⟨by show st.2.1.length<=_;omega,by show st.2.2.1.length<=_;omega,by show st.2.2.2.1.length<=_;omega,by show st.2.2.2.2.length<=_;omega,by show st.1.2.1.length<=_;omega,by show st.1.2.2.2.2.2.length<=_;omega⟩
  ·exact⟨by show st.2.1.length<=_;omega,by show st.2.2.1.length<=_;omega,by show (st.2.2.2.1++[_]).length<=_;simp;omega,by show (st.2.2.2.2++[_]).length<=_;simp;omega,by show st.1.2.1.length<=_;omega,by show st.1.2.2.2.2.2.length<=_;omega⟩
 ·exact⟨Yt _,Yt _,Yt _,Yt _,Yt _,Yt _⟩
theorem ZZm (b:BRDT) (l:List INPT) (hg:smG b.2.1=true) (hm:b.2.2.2.2.2.2.length<=100000) (hl:l.length<=1000):Zfy (Zc7 b l).1 (Zc7 b l).1=true/\ZhL (Zc7 b l).1 (Zc7 b l).1=true:=by
 obtain⟨l1,l2,l3,l4,l5,l6⟩:=Zoi b l hg hm hl;generalize (Zc7 b l).1=r at l1 l2 l3 l4 l5 l6;obtain⟨p1,p2⟩:=Z4J r.1 (by omega);obtain⟨i1,i2⟩:=Z4K r.2.1 (by omega);obtain⟨e1,e2⟩:=Z4L r.2.2.1 (by omega);obtain⟨s1,s2⟩:=ZZl r.2.2.2.2 (by omega) (by omega);have c1:ZM5 r.2.2.2.1=true:=by simp[ZM5];omega
 have c2:=Ztd Zq r.2.2.2.1;have hv:(ZgS r r).val=some true:=by simp only[ZgS,RT.val,p1,p2,i1,i2,e1,e2,s1,s2,c1,c2,ZaV,Zao,Yh,Ye,Y8,YV,Yi,Ya]
 exact⟨by simp only[Zfy,hv,okB],by simp only[ZhL,hv,getO]⟩
theorem ZJs (b:BRDT) (l:List Int) (hg:smG b.2.1=true) (hm:b.2.2.2.2.2.2.length<=1000) (hl:l.length<=4000):
  Zmy b l=true/\ZzB b l=true/\wRun b l=Zc7 b (decX l)/\Zfy (Zc7 b (decX l)).1 (Zc7 b (decX l)).1=true/\ZhL (Zc7 b (decX l)).1 (Zc7 b (decX l)).1=true:=by obtain⟨w1,w2⟩:=Z4a b l hg (by omega) hl;rw[ZQT l hl] at w2;have hd:=dec_len l;obtain⟨s1,s2⟩:=ZZm b (decX l) hg (by omega) (by omega);refine⟨?_,w1,w2,s1,s2⟩;simp only[Zmy,Yb,YF];exact⟨hg,by omega,hl⟩
theorem bruns_law (n raw:List Int):ZHZ n raw=true/\ZXo n raw=true:=by
 have hv:(ZlC n raw).val=some true:=by
  cases hx:decide (iN (List.length n)>250)||decide (iN (List.length raw)>200)
  ·have hlt:raw.length<=200:=by simp only[Yo,Y5,iN,Le] at hx;omega
   obtain⟨s1,s2,s3,s4,s5⟩:=ZZk n 120 (by omega);have s1:ZrE n 120=true:=s1;have s2:smG (Zaa n 120).1.2.1=true:=s2;have s3:(Zaa n 120).1.2.2.2.2.2.2.length<=200:=s3;have s4:(Zaa n 120).2.length<=4*120:=s4;obtain⟨a1,a2,a3,a4,a5⟩:=ZJs (Zaa n 120).1 (Zaa n 120).2 s2 (by omega) (by omega);obtain⟨c1,c2,c3,c4,c5⟩:=ZJs (Zaa n 120).1 raw s2 (by omega) (by omega);simp only[ZlC,RT.val,hx,ZXp.1,ZXp.2,s1,a1,a2,a3,a4,a5,c1,c2,c3,c4,c5,ZaV,Zao,Yai,Yh,Ys,Ye,Yl,Y8,Yu,Yi,Ya,Yc]
  ·simp only[ZlC,RT.val,hx,ZXp.1,Ye,Yi,Ya]
 exact⟨by simp only[ZHZ,hv];rfl,by simp only[ZXo,hv,getO]⟩
