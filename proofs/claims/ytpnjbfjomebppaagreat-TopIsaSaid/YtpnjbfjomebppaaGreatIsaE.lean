import Derived.Test.YtpnjbfjomebppaaGreatBrd9
open Go.IntKind (u8 u16 i64)
open Go Go.S3 Go.Proofs Go.Proofs.Cells
set_option linter.unusedVariables false
set_option linter.unusedSimpArgs false
set_option maxRecDepth 100000
namespace Go.Proofs.YtpnjbfjomebppaaGreat
noncomputable section
theorem ZQc (b:BRDT):(Zj1 b).val=(ZfC b).val:=by simp only[Zj1,ZfC,RT.val]
theorem ZI7 (b:BRDT):ZiB b=ZbR b/\Zj2 b=ZmD b:=by simp only[ZiB,ZbR,Zj2,ZmD,ZQc];exact⟨trivial,Tv⟩
theorem ZSE (k:Int):(bif k==1 then k==1 else bif k==2 then k==2 else bif k==3 then k==3 else bif k==4 then k==4 else k==5)=(decide (k>=1)&&decide (k<=5)):=by
 by_cases h1:k=1
 ·subst h1;rfl
 by_cases h2:k=2
 ·subst h2;rfl
 by_cases h3:k=3
 ·subst h3;rfl
 by_cases h4:k=4
 ·subst h4;rfl
 by_cases h5:k=5
 ·subst h5;rfl
 have e1:(k==1)=false:=by simpa using h1
 have e2:(k==2)=false:=by simpa using h2
 have e3:(k==3)=false:=by simpa using h3
 have e4:(k==4)=false:=by simpa using h4
 have e5:(k==5)=false:=by simpa using h5
 rw[e1,e2,e3,e4,e5];simp;omega
theorem ZQ0 (c:CORT):(c.2.2.2.2.1==7)=(Zp c==7):=by
 have:Zp c=ZM c.2.2.2.2.1:=rfl;rw[this];unfold ZM;cases h:decide (c.2.2.2.2.1<1)||decide (c.2.2.2.2.1>9)
 ·rfl
 ·simp at h;have:(c.2.2.2.2.1==7)=false:=by simp;omega
  rw[this];rfl
theorem ZlQ (s:SYST):(bif s.1.2.2.2.2.1==7 then i64.wrap (s.2.2.2.2.1+1) else 0)=ZcH s:=by unfold ZcH ZDr;rw[ZQ0];simp only[RT.val,bne];cases Zp s.1==7<;>rfl
theorem ZRJ {p q:Int} (hp:inR .u8 p) (hq:inR .u8 q):(decide (IntKind.wrap .u8 (p-q)<2)=(p==q||p==IntKind.wrap .u8 (q+1)))/\(decide (IntKind.wrap .u8 (p-q)<2)=true->(IntKind.wrap .u8 (p-q)==1)=(p==IntKind.wrap .u8 (q+1))):=by
 rw[Zh5] at hp hq;have e1:IntKind.wrap .u8 (p-q)=(p-q)%256:=ZzB _;have e2:IntKind.wrap .u8 (q+1)=(q+1)%256:=ZzB _;rw[e1,e2];refine⟨?_,λh=> ?_⟩
 ·rw[Bool.eq_iff_iff];simp only[Yk,YM,Yav];omega
 ·rw[Bool.eq_iff_iff];simp only[Yav];simp only[Yk] at h;omega
theorem ZF7 (n:Int):(if (if 100<n then 100 else n)>0 then if 100<n then 100 else n else 0)=Zq6 n:=by unfold Zq6 ZLq;simp only[RT.val]
theorem ZW6 (b:BRDT) (x:TY) (hg:smG b.2.1=true):ZU0 b x=bif decide (x.1>=1)&&decide (x.1<=5) then ZiD b.2.1 x.2.1 else bif x.1==6||x.1==7 then Zq6 b.2.2.1 else 0:=by
 have hv:(ZJo b x).val=some (bif decide (x.1>=1)&&decide (x.1<=5) then ZiD b.2.1 x.2.1 else bif x.1==6||x.1==7 then Zq6 b.2.2.1 else 0):=by
  unfold ZJo;simp only[RT.val,hg,Yi,Ya];cases decide (x.1>=1)&&decide (x.1<=5)
  ·cases x.1==6||x.1==7<;>rfl
  ·rfl
 simp only[ZU0,hv,getO]
theorem ZKg (d:QT3):ZbH d=bif Zag d then ((IntKind.wrap .u16 (d.1+1),d.2.1,IntKind.wrap .i64 (d.2.2-1)),(d.1,d.2.1),true) else ((0,0,0),(0,0),false):=by unfold ZbH Zka;simp only[RT.val];cases Zag d<;>rfl
theorem pstR (c:CORT):ZbK c=Zp c:=rfl
theorem bus_p (b:BRDT) (t:SYST) (i:INPT) (x5 x20 x71 x72:Bool) (h5:x5=(!i.2.2.1&&(Zp t.1==3&&ZaS t.1.2.2.2.1.1))) (h20:x20=(t.1.2.2.2.1.1==8||t.1.2.2.2.1.1==9)) (hq:x71=(Ze9 b (IntKind.wrap .u8 t.1.2.2.2.1.2.1)).2) (hq2:x71=true->x72=(Ze9 b (IntKind.wrap .u8 t.1.2.2.2.1.2.1)).1) (hj:b.2.2.2.2.2.1=true->x71=false):
  busS b t i=((t.1,t.2.1,(bif x5 then bif decide (t.1.2.2.2.1.1>=1)&&decide (t.1.2.2.2.1.1<=5) then t.2.2.1 else bif x20 then (bif !b.2.2.2.2.2.1 then (vAck t.2.2.1).1 else t.2.2.1) else bif x71 then (Zql t.2.2.1 x72).1 else t.2.2.1 else t.2.2.1),t.2.2.2),
   bif x5 then bif decide (t.1.2.2.2.1.1>=1)&&decide (t.1.2.2.2.1.1<=5) then Zge b.2.1 t.2.1 t.1.2.2.2.1.2.1 else bif x20 then (bif !b.2.2.2.2.2.1 then (vAck t.2.2.1).2 else i.2.2.2.2.2.2.2.2.2) else bif x71 then (Zql t.2.2.1 x72).2 else bif (ZiE b (IntKind.wrap .u8 t.1.2.2.2.1.2.1)).2 then ZmJ t.2.2.2.1 (ZiE b (IntKind.wrap .u8 t.1.2.2.2.1.2.1)).1 else i.2.2.2.2.2.2.2.2.2 else 0):=by
 unfold busS;dsimp only;have e:(i.2.2.1||(Zp t.1 !=3|| !ZaS t.1.2.2.2.1.1))= !x5:=by rw[h5,bne];cases i.2.2.1<;>cases Zp t.1==3<;>cases ZaS t.1.2.2.2.1.1<;>rfl
 rw[e];cases hx:x5
 ·rfl
 ·simp only[Yf,Ya,Yb];cases hm:decide (t.1.2.2.2.1.1>=1)&&decide (t.1.2.2.2.1.1<=5)
  ·simp only[Yb];have h6:(t.1.2.2.2.1.1 !=6)=x20:=by
    rw[h5] at hx;simp only[Yc] at hx;have hr:=hx.2.2;unfold ZaS ZAi at hr;simp only[RT.val] at hr;simp at hr hm;rw[h20];have:t.1.2.2.2.1.1=6\/t.1.2.2.2.1.1=8\/t.1.2.2.2.1.1=9:=by omega
    rcases this with h|h|h<;>rw[h]<;>rfl
   rw[h6,<-hq];cases x20
   ·simp only[YW,Yb];cases hz:x71
    ·simp only[Yb];cases (ZiE b (IntKind.wrap .u8 t.1.2.2.2.1.2.1)).2<;>rfl
    ·simp only[Ya];rw[hq2 hz]
   ·simp only[YT,Ya];cases b.2.2.2.2.2.1<;>rfl
  ·rfl
theorem ZUx (b:BRDT) (p:Int):Ze9 b p=(p==IntKind.wrap .u8 (b.2.2.2.1+1),!b.2.2.2.2.2.1&&(p==b.2.2.2.1||p==IntKind.wrap .u8 (b.2.2.2.1+1))):=by unfold Ze9 ZJq;simp only[RT.val];cases b.2.2.2.2.2.1<;>cases p==b.2.2.2.1<;>rfl
theorem ZUy (b:BRDT) (p:Int):ZiE b p=(IntKind.wrap .i64 (IntKind.wrap .u8 (p-b.2.2.2.2.1)),decide (IntKind.wrap .u8 (p-b.2.2.2.2.1)<4)):=by unfold ZiE ZJr;simp only[RT.val]
theorem ZPP (w x y:Int) (a:Bool):decide (w>=bif a then x else y)=bif a then decide (w>=x) else decide (w>=y):=by cases a<;>rfl
theorem ZXh (b:BRDT) (s:SYST) (i:INPT) (hg:smG b.2.1=true):ZaK b (Zn b s i) i=(i.1&&(bif decide (s.1.2.2.2.1.1>=1)&&decide (s.1.2.2.2.1.1<=5) then decide (ZcH s>=ZiD b.2.1 s.1.2.2.2.1.2.1) else bif s.1.2.2.2.1.1==6||s.1.2.2.2.1.1==7 then decide (ZcH s>=Zq6 b.2.2.1) else decide (ZcH s>=0)),
  i.2.1||Zag s.2.2.2.1,i.2.2.1,i.2.2.2.1,i.2.2.2.2.1,i.2.2.2.2.2.1,i.2.2.2.2.2.2.1,i.2.2.2.2.2.2.2.1,bif b.2.2.2.2.2.1 then andI .u8 i.2.2.2.2.2.2.2.2.1 1==1 else vInt (Zfa s.2.2.1 i.2.2.2.2.2.2.2.2.1)):=by
 unfold ZaK;have e1:ZcH (Zn b s i)=ZcH s:=rfl;have e2:(Zn b s i).1=s.1:=rfl;have e3:(Zn b s i).2.2.2.1=s.2.2.2.1:=rfl;rw[e1,e2,e3,ZW6 b _ hg,ZPP,ZPP];have e4:(Zn b s i).2.2.1=bif !b.2.2.2.2.2.1 then Zfa s.2.2.1 i.2.2.2.2.2.2.2.2.1 else s.2.2.1:=rfl
 rw[e4];cases b.2.2.2.2.2.1<;>simp only[Ya,Yb,Yf,Yl]
def inpX (a b c k:Int):INPT:=bif k !=ZhT a b c then ZQ else
 (andI u8 a 1==0,andI u8 a 2 !=0,andI u8 a 4 !=0,andI u8 a 8 !=0,andI u8 a 16 !=0,andI u8 a 32 !=0,andI u8 a 64 !=0,andI u8 a 128 !=0,b,c)
def decX:List Int->List INPT
 |a::b::c::k::l=>inpX a b c k::decX l
 |_=>[]
theorem drop4 (l:List Int) (i:Nat) (h:i+4<=l.length):l.drop i=R.get (R.int .u8) l (i:Int)::R.get (R.int .u8) l ((i+1:Nat):Int)::R.get (R.int .u8) l ((i+2:Nat):Int)::R.get (R.int .u8) l ((i+3:Nat):Int)::l.drop (i+4):=by
 have hg:∀j:Nat,(hj:j<l.length)->R.get (R.int .u8) l (j:Int)=l[j]:=λj hj=>by simp[R.get,hj]
 rw[Y6 (by omega:i<l.length),Y6 (by omega:i+1<l.length),Y6 (by omega:i+1+1<l.length),Y6 (by omega:i+1+1+1<l.length)];rw[hg i (by omega),hg (i+1) (by omega),hg (i+2) (by omega),hg (i+3) (by omega)]
theorem ZPN {l:List Int} (h:l.length<4):decX l=[]:=by
 match l with
 |[]=>rfl
 |[_]=>rfl
 |[_,_]=>rfl
 |[_,_,_]=>rfl
 |_::_::_::_::_=>simp at h;omega
theorem dec_len:∀l:List Int,(decX l).length=l.length/4
 |a::b::c::k::l=>by have:=dec_len l;simp only[decX,List.length_cons,this];omega
 |[]=>by simp[decX]
 |[_]=>by simp[decX]
 |[_,_]=>by simp[decX]
 |[_,_,_]=>by simp[decX]
def NoO (ev:List EVTT):Prop:=∀e∈ev,e.1≠7
variable {ev:List EVTT}
theorem NoO.snoc (h:NoO ev) {e:EVTT} (he:e.1≠7):NoO (ev++[e]):=λx hx=>by
 rcases Y1.1 hx with hx|hx
 ·exact h x hx
 ·rw[Yac] at hx;subst hx;exact he
theorem ZGb (s:Int):Zgh s≠7:=by
 unfold Zgh ZJp;simp only[RT.val];cases Zd s
 ·cases s==5<;>simp
 ·simp
theorem ZZB (h:NoO ev) (c:CORT) (l:LINT) (d:Int) (cell:Cell) (moved:Bool):NoO (evE ev c l d cell moved):=by
 have hw:∀(e:EVTT) (p:TC),e.1≠7->(Ze1 e p l).1≠7:=λe p he=>he
 unfold evE;dsimp only;cases l.2.2.1
 ·cases (finS c l d).2<;>cases moved<;>simp only[Ya,Yb]
  ·exact h
  ·exact h.snoc (by simp)
  ·exact h.snoc (hw _ _ (ZGb _))
  ·exact (h.snoc (hw _ _ (ZGb _))).snoc (by simp)
 ·cases Zdx c<;>simp only[Ya,Yb]
  ·exact h.snoc (hw _ _ (by simp))
  ·exact (h.snoc (hw _ _ (by simp))).snoc (hw _ _ (by simp))
theorem ZPp (b:BRDT) (s0:TC):∀(l:List INPT) (st:STT),NoO st.2.2.2.1->NoO (ZbU b s0 st l).2.2.2.1
 |[],st,h=>h
 |i::l,st,h=>ZPp b s0 l (Zas b s0 st i) (ZZB h _ _ _ _ _)
end
end Go.Proofs.YtpnjbfjomebppaaGreat
open Go.Proofs.Tryz (prog)
open Go Go.S3 Go.Proofs
namespace Go.Proofs.YtpnjbfjomebppaaGreat
noncomputable section
def ZD1 (a:Int) (b:Int) (c:Int):RT (Int):=
 .Lf (xorI u8 (xorI u8 (xorI u8 a b) c) 165)
def Zif (a:Int) (b:Int) (c:Int):Int:=(ZD1 a b c).val
def ZiV:En:=Zi ZDt ZN3 (λ_=>none) (λa=>Zif a.1 a.2.1 a.2.2)
theorem Zhr:Zb prog 128 ZiV:=
 pureQ 127 [] [] _ _ trivial Tryz.func128 Tryz.call128 trivial
def ZKx:RT INPT:=
 .Lf ((true,false,false,false,false,false,false,false,0,0))
def Zcv:INPT:=(ZKx).val
def Zm6:En:=Zi Zxw ZJt (λ_=>none) (λa=>Zcv)
theorem ZiT:Zb prog 86 Zm6:=
 pureQ 1 [] [] _ _ trivial Tryz.func86 Tryz.call86 trivial
def Zfd:En:=.tree (Zx (envX prog [] [] 15 8) Tryz.f190)
theorem Zih:Zb prog 190 Zfd:=Z5 trivial Tryz.func190 rfl (by kernel_rfl) Tryz.call190 trivial
def ZDU (c:Int):RT INPT:=
 .Lf ((!andI u8 (shrI u8 c 0) 1==1,andI u8 (shrI u8 c 1) 1==1,andI u8 (shrI u8 c 2) 1==1,andI u8 (shrI u8 c 3) 1==1,andI u8 (shrI u8 c 4) 1==1,andI u8 (shrI u8 c 5) 1==1,andI u8 (shrI u8 c 6) 1==1,andI u8 (shrI u8 c 7) 1==1,0,0))
def ZaF (c:Int):INPT:=(ZDU c).val
def Zst:En:=Zi Zx1 ZJt (λ_=>none) (λa=>ZaF a)
theorem ZqR:Zb prog 129 Zst:=
 pureQ 15 [(190,Zfd)] [] _ _ ⟨Zih,Tv⟩ Tryz.func129 Tryz.call129 trivial
abbrev ZKz:List Sh:=[Sh.agg ZcP]
def ZQ2:LS:={n:=35,Sl:=[(3,.code (So Ka)),(23,.code (Sh.agg (R.Pq R.bool rcF7))),(24,.code (So Kc))],Bx:=[[.many ZcP]],Sg:=[]}
def ZDY (a:QT19):RT (Option (Go1 (QT19))):=
 let x1:=decide (0<=a.2.2.1/\a.2.2.1<8)
 let x2:=bif a.2.2.1==0 then a.2.1.1 else bif a.2.2.1==iN (0+1) then a.2.1.2.1 else bif a.2.2.1==iN (0+1+1) then a.2.1.2.2.1 else bif a.2.2.1==iN (0+1+1+1) then a.2.1.2.2.2.1 else bif a.2.2.1==iN (0+1+1+1+1) then a.2.1.2.2.2.2.1 else bif a.2.2.1==iN (0+1+1+1+1+1) then a.2.1.2.2.2.2.2.1 else bif a.2.2.1==iN (0+1+1+1+1+1+1) then a.2.1.2.2.2.2.2.2.1 else a.2.1.2.2.2.2.2.2.2
 .br (decide (a.2.2.1<8)) (.br (!x1||(!x2||decide (0<=a.2.2.1))) (.br (x1) (Ls (Go1.cont (bif x2 then orI u8 a.1 (shlI u8 1 a.2.2.1) else a.1,a.2.1,i64.wrap (a.2.2.1+1),a.2.2.2.1,PUnit.unit))) Ln) Ln) (Ls (Go1.brk (a.1,a.2.1,a.2.2.1,a.2.2.2.1,PUnit.unit)))
def ZDZ:Ora:=ZaY false ZQ2 ZDY (λa=>9)
theorem ZGY:ZaB (envX prog [] [] 63 8) (.block 0 (.loop (ZX Tryz.f157.body 0))) ZDZ:=
 loopP trivial
def ZKA (i:INPT):RT (Option (Int)):=
 let x1:QT19:=(0,(!i.1,i.2.1,i.2.2.1,i.2.2.2.1,i.2.2.2.2.1,i.2.2.2.2.2.1,i.2.2.2.2.2.2.1,i.2.2.2.2.2.2.2.1),0,i,())
 let x2:=runF false ZDY (λa=>9) x1
 .br (okB x2) (Ls (getO (false,x1) x2).2.1) Ln
def Zwq (i:INPT):Int:=getO ZN3.Df (ZKA i).val
def ZD0 (i:INPT):Bool:=okB (ZKA i).val
def ZKB:En:=Zi ZKz ZN3 (λa=>some (ZD0 a)) (λa=>Zwq a)
theorem ZDX:Zb prog 157 ZKB:=
 pureP 63 [] [(0,ZDZ)] _ _ trivial Tryz.func157 Tryz.call157 ⟨ZGY,Tv⟩
abbrev Zhp:List Sh:=[So (R.sl Ka)]
def Zz0:LS:={n:=44,Sl:=[(0,.code (So (R.sl Ka))),(3,.tip 0)],Bx:=[],Sg:=[⟨ZcP,122,true⟩]}
def ZcI (a:List Int×List INPT×PUnit):RT (Option (Go1 (List Int×List INPT×PUnit))):=
 let x1:=decide (0<=4)&&decide (4<=iN (Le a.1))&&(decide (iN (Le a.1)=0)||decide (iN (Le a.1)<=iN (Le a.1)))
 let x2:=Zif (R.get Ka a.1 0) (R.get Ka a.1 (iN (0+1))) (R.get Ka a.1 (iN (0+1+1)))==R.get Ka a.1 (iN (0+1+1+1))
 let x3:List INPT:=a.2.1++[(bif x2 then (ZaF (R.get Ka a.1 0)).1 else Zcv.1,bif x2 then (ZaF (R.get Ka a.1 0)).2.1 else Zcv.2.1,bif x2 then (ZaF (R.get Ka a.1 0)).2.2.1 else Zcv.2.2.1,bif x2 then (ZaF (R.get Ka a.1 0)).2.2.2.1 else Zcv.2.2.2.1,bif x2 then (ZaF (R.get Ka a.1 0)).2.2.2.2.1 else Zcv.2.2.2.2.1,bif x2 then (ZaF (R.get Ka a.1 0)).2.2.2.2.2.1 else Zcv.2.2.2.2.2.1,bif x2 then (ZaF (R.get Ka a.1 0)).2.2.2.2.2.2.1 else Zcv.2.2.2.2.2.2.1,bif x2 then (ZaF (R.get Ka a.1 0)).2.2.2.2.2.2.2.1 else Zcv.2.2.2.2.2.2.2.1,bif x2 then R.get Ka a.1 (iN (0+1)) else Zcv.2.2.2.2.2.2.2.2.1,bif x2 then R.get Ka a.1 (iN (0+1+1)) else Zcv.2.2.2.2.2.2.2.2.2)]
 .br (decide (iN (Le a.1)>=4)&&decide (iN (Le a.2.1)<65536)) (.br (!Nat.ble 4 (Le a.1)||(!x1||Nat.ble (Le x3) most)) (.br (!Nat.ble 4 (Le a.1)||x1) (.br (Nat.ble 4 (Le a.1)) (Ls (Go1.cont (subL a.1 4 (iN (Le a.1)),x3,PUnit.unit))) Ln) Ln) Ln) (Ls (Go1.brk (a.1,a.2.1,PUnit.unit)))
def Zna:Ora:=ZaY false Zz0 ZcI (λa=>1000000000000)
theorem Zsv:ZaB (envX prog [(86,Zm6),(128,ZiV),(129,Zst)] [] 63 8) (.block 0 (.loop (ZX Tryz.f74.body 0))) Zna:=
 loopP ⟨ZiT,Zhr,ZqR,Tv⟩
def ZgC (l:List Int):RT (Option (List INPT)):=
 .br (okB (runF false ZcI (λa=>1000000000000) (l,[],()))) (Ls (getO (false,l,[],()) (runF false ZcI (λa=>1000000000000) (l,[],()))).2.2.1) Ln
def Zsw (l:List Int):List INPT:=getO Zo7.Df (ZgC l).val
def Znb (l:List Int):Bool:=okB (ZgC l).val
def ZKy:En:=Zi Zhp Zo7 (λa=>some (Znb a)) (λa=>Zsw a)
theorem ZzZ:Zb prog 74 ZKy:=
 pureP 63 [(86,Zm6),(128,ZiV),(129,Zst)] [(0,Zna)] _ _ ⟨ZiT,Zhr,ZqR,Tv⟩ Tryz.func74 Tryz.call74 ⟨Zsv,Tv⟩
def ZzY:LS:={n:=35,Sl:=[(3,.tip 0),(11,.code (So (R.sl ZcP))),(12,.code (So Kc)),(13,.code (So Kc))],Bx:=[],Sg:=[⟨Ka,5,true⟩]}
def Zdf (a:List INPT×Int×Int×List Int×PUnit):RT (Option (Go1 (List INPT×Int×Int×List Int×PUnit))):=
 let x1:INPT:=R.get ZcP a.1 a.2.2.1
 let x2:=ZD0 x1
 let x3:=Zwq x1
 let x4:=x1.2.2.2.2.2.2.2.2
 let x5:=x4.1
 let x6:=x4.2
 let x7:List Int:=a.2.2.2.1++[x3,x5,x6,Zif x3 x5 x6]
 .br (decide (a.2.2.1<a.2.1)) (.br (!Zf a.2.2.1 (Le a.1)||(!x2||Nat.ble (Le x7) most)) (.br (!Zf a.2.2.1 (Le a.1)||x2) (.br (Zf a.2.2.1 (Le a.1)) (Ls (Go1.cont (a.1,a.2.1,i64.wrap (a.2.2.1+1),x7,PUnit.unit))) Ln) Ln) Ln) (Ls (Go1.brk (a.1,a.2.1,a.2.2.1,a.2.2.2.1,PUnit.unit)))
def Zm8:Ora:=ZaY false ZzY Zdf (λa=>1000000000000)
theorem Zsu:ZaB (envX prog [(128,ZiV),(157,ZKB)] [] 127 8) (.block 0 (.loop (ZX Tryz.f87.body 0))) Zm8:=
 loopP ⟨Zhr,ZDX,Tv⟩
def ZgB (l:List INPT):RT (Option (List Int)):=
 let x1:List INPT×Int×Int×List Int×PUnit:=(subL l 0 (if 65536<iN (Le l) then 65536 else iN (Le l)),iN (Le (subL l 0 (if 65536<iN (Le l) then 65536 else iN (Le l)))),0,[],())
 let x2:=runF false Zdf (λa=>1000000000000) x1
 .br (decide (0<=0)&&decide (0<=if 65536<iN (Le l) then 65536 else iN (Le l))&&(decide ((if 65536<iN (Le l) then 65536 else iN (Le l))=0)||decide ((if 65536<iN (Le l) then 65536 else iN (Le l))<=iN (Le l)))) (.br (okB x2) (Ls (getO (false,x1) x2).2.2.2.2.1) Ln) Ln
def ZlW (l:List INPT):List Int:=getO ZJu.Df (ZgB l).val
def ZiU (l:List INPT):Bool:=okB (ZgB l).val
def Zm9:En:=Zi Zj9 ZJu (λa=>some (ZiU a)) (λa=>ZlW a)
theorem Zm7:Zb prog 87 Zm9:=
 pureP 127 [(128,ZiV),(157,ZKB)] [(0,Zm8)] _ _ ⟨Zhr,ZDX,Tv⟩ Tryz.func87 Tryz.call87 ⟨Zsu,Tv⟩
theorem ZO4:(List.range 256).all (λc=>(List.all [(ZaF (c:Int)).1==(andI u8 (c:Int) 1==0),(ZaF (c:Int)).2.1==(andI u8 (c:Int) 2 !=0),(ZaF (c:Int)).2.2.1==(andI u8 (c:Int) 4 !=0),(ZaF (c:Int)).2.2.2.1==(andI u8 (c:Int) 8 !=0),
  (ZaF (c:Int)).2.2.2.2.1==(andI u8 (c:Int) 16 !=0),(ZaF (c:Int)).2.2.2.2.2.1==(andI u8 (c:Int) 32 !=0),(ZaF (c:Int)).2.2.2.2.2.2.1==(andI u8 (c:Int) 64 !=0),(ZaF (c:Int)).2.2.2.2.2.2.2.1==(andI u8 (c:Int) 128 !=0)] id))=true:=by kernel_rfl
theorem ZST {c:Int} (h:inR .u8 c):(ZaF c).1=(andI u8 c 1==0)/\(ZaF c).2.1=(andI u8 c 2 !=0)/\(ZaF c).2.2.1=(andI u8 c 4 !=0)/\(ZaF c).2.2.2.1=(andI u8 c 8 !=0)/\
  (ZaF c).2.2.2.2.1=(andI u8 c 16 !=0)/\(ZaF c).2.2.2.2.2.1=(andI u8 c 32 !=0)/\(ZaF c).2.2.2.2.2.2.1=(andI u8 c 64 !=0)/\(ZaF c).2.2.2.2.2.2.2.1=(andI u8 c 128 !=0):=by rw[Zh5] at h;obtain⟨n,rfl⟩:∃n:Nat,c=(n:Int):=⟨c.toNat,by omega⟩;have:=YV.1 ZO4 n (by simp;omega);simpa [List.all_cons] using this
theorem dec4 (l:List Int) (h:4<=l.length):l=R.get (R.int .u8) l 0::R.get (R.int .u8) l 1::R.get (R.int .u8) l 2::R.get (R.int .u8) l 3::l.drop 4:=by have:=drop4 l 0 (by omega);rw[List.drop_zero] at this;exact this
theorem ZXA {l:List Int} (h:∀x∈l,inR .u8 x) (i:Int):inR .u8 (R.get (R.int .u8) l i):=by
 unfold R.get;rw[Ys];cases hq:l[i.toNat]? with
 |none=>exact⟨by decide,by decide⟩
 |some a=>exact h a (List.mem_of_getElem? hq)
theorem sub4 (l:List Int):subL l 4 (iN l.length)=l.drop 4:=by
 simp only[subL,iN,Le];have e1:((4:Int).toNat)=4:=rfl;have e2:((l.length:Int)-4).toNat=l.length-4:=by omega
 first
  |(rw[e1,e2];exact Y2 (by simp))
  |(simp;exact Y2 (by simp))
theorem ZqT (l:List Int) (hl:l.length<=4000) (hin:∀x∈l,inR .u8 x):Znb l=true/\Zsw l=decX l:=by
 have hms:=mst;obtain⟨r,hr,h0,h1⟩:=ZA (fl:=false) (t:=ZcI) (fuel:=λ_=>1000000000000)
  (λa=>∃(q:List Int) (o:List INPT),q.length+4*o.length=l.length/\(∀x∈q,inR .u8 x)/\o++decX q=decX l/\a=(q,o,()))
  (λa=>a.1.length) (λr=>r.1=false/\r.2.2.1=decX l)
  (by
   rintro a ⟨q,o,hq,hi,hd,rfl⟩;by_cases hlt:4<=q.length
   ·left;have d:(decide (iN q.length>=4)&&decide (iN o.length<65536))=true:=by simp only[iN,Le,Yc,Yk];omega
    have d1:decide (iN o.length<65536)=true:=by simp only[iN,Le,Yk];omega
    have b4:Nat.ble 4 q.length=true:=by rw[YG];exact hlt
    have d4:decide (4<=iN q.length)=true:=by simp only[iN,Le,Yk];omega
    have d0:decide ((0:Int)<=4)=true:=rfl;have dl:decide (iN q.length<=iN q.length)=true:=by simp
    have hb:∀a:INPT,Nat.ble (o++[a]).length most=true:=λa=>ZaE (by simp;omega)
    have i1:iN (0+1)=(1:Int):=rfl;have i2:iN (0+1+1)=(2:Int):=rfl;have i3:iN (0+1+1+1)=(3:Int):=rfl;have hin0:=ZXA hi 0;have hdr:q=R.get (R.int .u8) q 0::R.get (R.int .u8) q 1::R.get (R.int .u8) q 2::R.get (R.int .u8) q 3::q.drop 4:=dec4 q hlt;rw[hdr] at hd;have hck:∀a b c,Zif a b c=ZhT a b c:=λa b c=>rfl
    obtain⟨q0,hq0⟩:∃q0,R.get (R.int .u8) q 0=q0:=⟨_,rfl⟩;obtain⟨q1,hq1⟩:∃q0,R.get (R.int .u8) q 1=q0:=⟨_,rfl⟩;obtain⟨q2,hq2⟩:∃q0,R.get (R.int .u8) q 2=q0:=⟨_,rfl⟩;obtain⟨q3,hq3⟩:∃q0,R.get (R.int .u8) q 3=q0:=⟨_,rfl⟩;rw[hq0,hq1,hq2,hq3] at hd;rw[hq0] at hin0;have hv:(ZcI (q,o,())).val=some (Go1.cont (q.drop 4,o++[inpX q0 q1 q2 q3],())):=by
     obtain⟨e1,e2,e3,e4,e5,e6,e7,e8⟩:=ZST hin0;simp only[ZcI,RT.val,d,b4,d0,d4,dl,hb,i1,i2,i3,hq0,hq1,hq2,hq3,hck,sub4,e1,e2,e3,e4,e5,e6,e7,e8,ZbP,Za3,Yi,Yf,Yj,Yy,Y0,YT,Ya,Yb];have hcm:(q3==ZhT q0 q1 q2)=(ZhT q0 q1 q2==q3):=Bool.eq_iff_iff.2 ⟨λh=>Yav.2 (Yav.1 h).symm,λh=>Yav.2 (Yav.1 h).symm⟩;have hne:(q3 !=ZhT q0 q1 q2)= !(ZhT q0 q1 q2==q3):=by rw[bne,hcm]
     have hs:Zcv=ZQ:=rfl;unfold inpX;rw[hne];generalize (ZhT q0 q1 q2==q3)=bb;cases bb
     ·simp only[d1,Ya,Yb,Yf,Yl,hs];rfl
     ·simp only[d1,Ya,Yb,Yf,Yl];rfl
    refine⟨_,hv,⟨q.drop 4,o++[inpX q0 q1 q2 q3],by simp;omega,λx hx=>hi x (Yas hx),?_,rfl⟩,by simp;omega⟩;rw[<-hd];simp only[decX,Yn,List.cons_append,List.nil_append]
   ·right;left;have d:(decide (iN q.length>=4)&&decide (iN o.length<65536))=false:=by simp only[iN,Le,Yah,Y9];left;omega
    refine⟨(q,o,()),by simp only[ZcI,RT.val,d,Yb],rfl,?_⟩;rw[ZPN (by omega),Yt] at hd
    exact hd)
  (l,[],()) ⟨l,[],by simp,hin,by simp,rfl⟩ (by simp only;omega)
 obtain⟨r1,r2⟩:=r;simp only at h0 h1;subst h0;have hv:(ZgC l).val=some r2.2.1:=by simp only[ZgC,RT.val,hr,okB,getO,Ya]
 exact⟨by simp only[Znb,hv];rfl,by simp only[Zsw,hv,getO];exact h1⟩
theorem dec_in {a:List Int} (h:okHL Zhp a):∀x∈a,inR .u8 x:=h.2
def Zz7 (l:List Int):Bool:=Nat.ble l.length 4000
def Zkl:En:=Zi Zhp Zo7 (λa=>some (Zz7 a)) (λa=>decX a)
theorem Zll:Zb Tryz.prog 74 Zkl:=ZzZ.pure_congr
 (λa h hp=>by
  have hl:a.length<=4000:=by simpa [Zz7] using hp
  have h1:=(ZqT a hl (dec_in h)).1
  simp[h1])
 (λa h hp=>by
  have hl:a.length<=4000:=by simpa [Zz7] using hp
  exact (ZqT a hl (dec_in h)).2)
def Zhd:En:=.tree (Zx (envX prog [(50,ZvA),(97,ZNd),(98,Zvw),(99,ZEX)] [] 31 8) Tryz.f48)
theorem Zh9:Zb prog 48 Zhd:=Z5 ⟨ZI6,ZSc,ZI3,ZEW,Tv⟩ Tryz.func48 rfl (by kernel_rfl) Tryz.call48 trivial
def Zbj:En:=.tree (Zx (envX prog [] [] 63 8) Tryz.f197)
theorem ZeH:Zb prog 197 Zbj:=Z5 trivial Tryz.func197 rfl (by kernel_rfl) Tryz.call197 trivial
def Zbk:En:=.tree (Zx (envX prog [(197,Zbj)] [] 40567299923085334190945185301503 8) Tryz.f131)
theorem ZeI:Zb prog 131 Zbk:=Z5 ⟨ZeH,Tv⟩ Tryz.func131 rfl (by kernel_rfl) Tryz.call131 trivial
def ZbM:En:=.tree (Zx (envX prog [] [] 31 8) Tryz.f133)
theorem Ze0:Zb prog 133 ZbM:=Z5 trivial Tryz.func133 rfl (by kernel_rfl) Tryz.call133 trivial
def ZE:En:=.tree (Zx (envX prog [] [] 63 8) Tryz.f134)
theorem ZaP:Zb prog 134 ZE:=Z5 trivial Tryz.func134 rfl (by kernel_rfl) Tryz.call134 trivial
def Zba:En:=.tree (Zx (envX prog [(120,Zlc),(133,ZbM),(134,ZE),(144,Zyb)] [] 63 8) Tryz.f132)
theorem Zd3:Zb prog 132 Zba:=Z5 ⟨Zp4,Ze0,ZaP,ZFI,Tv⟩ Tryz.func132 rfl (by kernel_rfl) Tryz.call132 trivial
def Zbi:En:=.tree (Zx (envX prog [(130,ZOa),(131,Zbk),(132,Zba),(133,ZbM),(134,ZE)] [] 45177283517874303 8) Tryz.f75)
theorem Zb8:Zb prog 75 Zbi:=Z5 ⟨ZSt,ZeI,Zd3,Ze0,ZaP,Tv⟩ Tryz.func75 rfl (by kernel_rfl) Tryz.call75 trivial
def Zan:En:=.tree (Zx (envX prog [] [] 23 8) Tryz.f201)
theorem ZcE:Zb prog 201 Zan:=Z5 trivial Tryz.func201 rfl (by kernel_rfl) Tryz.call201 trivial
def Zbx:En:=.tree (Zx (envX prog [(201,Zan),(269,ZnO)] [] 4195343 8) Tryz.f200)
theorem ZeQ:Zb prog 200 Zbx:=Z5 ⟨ZcE,ZAT,Tv⟩ Tryz.func200 rfl (by kernel_rfl) Tryz.call200 trivial
def Zbm:En:=.tree (Zx (envX prog [(141,Zp0),(198,ZnG),(199,ZAJ),(200,Zbx)] [] 63 8) Tryz.f135)
theorem ZeK:Zb prog 135 Zbm:=Z5 ⟨Zzh,ZAH,ZMb,ZeQ,Tv⟩ Tryz.func135 rfl (by kernel_rfl) Tryz.call135 trivial
def Zaf:En:=.tree (Zx (envX prog [] [] 127 8) Tryz.f204)
theorem Zb9:Zb prog 204 Zaf:=Z5 trivial Tryz.func204 rfl (by kernel_rfl) Tryz.call204 trivial
def Zbw:En:=.tree (Zx (envX prog [(201,Zan),(202,Zjp),(203,ZAO),(204,Zaf),(205,Ztj),(206,Zvs)] [] 68720003071 8) Tryz.f137)
theorem ZeP:Zb prog 137 Zbw:=Z5 ⟨ZcE,Zrq,ZMi,Zb9,ZHi,ZI2,Tv⟩ Tryz.func137 rfl (by kernel_rfl) Tryz.call137 trivial
def Zbl:En:=.tree (Zx (envX prog [(143,ZcU),(204,Zaf),(207,ZnC),(208,ZpZ)] [] 255 8) Tryz.f140)
theorem ZeJ:Zb prog 140 Zbl:=Z5 ⟨Zep,Zb9,ZAD,ZC4,Tv⟩ Tryz.func140 rfl (by kernel_rfl) Tryz.call140 trivial
def Zbn:En:=.tree (Zx (envX prog [(83,ZcV),(135,Zbm),(136,ZnX),(137,Zbw),(138,ZuM),(139,Zdz),(140,Zbl),(141,Zp0),(142,ZC8),(143,ZcU)] [] 255 8) Tryz.f76)
theorem Zca:Zb prog 76 Zbn:=Z5 ⟨Zdh,ZeK,ZnW,ZeP,ZIp,ZfQ,ZeJ,Zzh,ZPK,Zep,Tv⟩ Tryz.func76 rfl (by kernel_rfl) Tryz.call76 trivial
def Za1:En:=.tree (Zx (envX prog [(120,Zlc),(134,ZE),(144,Zyb)] [] 7 8) Tryz.f77)
theorem ZbN:Zb prog 77 Za1:=Z5 ⟨Zp4,ZaP,ZFI,Tv⟩ Tryz.func77 rfl (by kernel_rfl) Tryz.call77 trivial
abbrev ZDj:List Sh:=[Sh.agg (R.Pq Kc (R.Pq rcRG (R.Pq Kc (R.Pq Ka (R.Pq Ka (R.Pq R.bool rcCE)))))),So (R.sl Ka)]
abbrev ZvB:Rs:=Rs.tup [Sh.agg (R.Pq (R.sl ZVK) (R.Pq (R.sl ZlI) (R.Pq (R.sl ZaA) (R.Pq (R.sl Z8) (R.Pq (R.Pq Z8 (R.Pq Kc (R.Pq (R.sl Ka) (R.Pq (RY) (R.Pq Kc R.bool))))) (R.Pq rcCE (R.Pq Zcp (R.Pq (R.Pq Kb (R.Pq Ka Kc)) (R.Pq Kc (R.sl (R.Pq Ka Ka))))))))))),So Kc]
def ZTu:LS:={n:=58,Sl:=[(4,.fix (A.loc 1 0)),(8,.fix (A.loc 5 0)),(29,.code (So (R.sl ZcP))),(30,.code (So Kc)),(31,.code (So Kc))],Bx:=[List.replicate 7 .junk,List.replicate 66 .junk,List.replicate 7 .junk,List.replicate 62 .junk,List.replicate 62 .junk,[.many (R.Pq Z8 (R.Pq Kc (R.Pq (R.sl Ka) (R.Pq (RY) (R.Pq Kc R.bool))))),.code rcCE,.many Zcp,.many (R.Pq Kb (R.Pq Ka Kc)),.code Kc,.tip 0,.many (R.Pq Kc (R.Pq rcRG (R.Pq Kc (R.Pq Ka (R.Pq Ka (R.Pq R.bool rcCE)))))),.tip 1,.tip 2,.tip 3,.tip 4,.many (R.Pq (R.Pq Z8 (R.Pq Kc (R.Pq (R.sl Ka) (R.Pq (RY) (R.Pq Kc R.bool))))) (R.Pq rcCE (R.Pq Zcp (R.Pq (R.Pq Kb (R.Pq Ka Kc)) (R.Pq Kc (R.sl (R.Pq Ka Ka))))))),.many Z8]],Sg:=[⟨R.Pq Ka Ka,194,false⟩,⟨R.Pq Kc (R.Pq Kb (R.Pq Ka (R.Pq R.bool (R.Pq R.bool (R.Pq R.bool (R.Pq R.bool (R.Pq R.bool ZRe))))))),119,false⟩,⟨R.Pq Kc (R.Pq (RY) (R.Pq Kc (R.Pq Kc (R.Pq R.bool R.bool)))),70,false⟩,⟨R.Pq Kc (R.Pq Kc (R.Pq (R.sl Ka) (R.Pq ZRe (R.Pq R.bool (R.Pq R.bool (R.Pq R.bool (R.Pq R.bool (R.Pq Kb Ka)))))))),77,false⟩,⟨R.Pq Kc (R.Pq Znj (R.Pq R.bool (R.Pq R.bool (R.Pq R.bool (R.Pq Ka rcF7))))),38,false⟩]}
def Zc2 (a:List INPT×Int×Int×CORT×List (Int×Int)×PICT×(QT3)×Int×BRDT×SYST×TC×List (Int×Int)×List PINT×List ITMT×List EVTT×List TC×PUnit):RT (Option (Go1 (List INPT×Int×Int×CORT×List (Int×Int)×PICT×(QT3)×Int×BRDT×SYST×TC×List (Int×Int)×List PINT×List ITMT×List EVTT×List TC×PUnit))):=
 let x1:INPT:=R.get ZcP a.1 a.2.2.1
 let x2:=x1.1
 let x3:=bif a.2.2.2.1.2.2.2.1.1==1 then a.2.2.2.1.2.2.2.1.1==1 else bif a.2.2.2.1.2.2.2.1.1==2 then a.2.2.2.1.2.2.2.1.1==2 else bif a.2.2.2.1.2.2.2.1.1==3 then a.2.2.2.1.2.2.2.1.1==3 else bif a.2.2.2.1.2.2.2.1.1==4 then a.2.2.2.1.2.2.2.1.1==4 else a.2.2.2.1.2.2.2.1.1==5
 let x4:= !x3
 let x5:= !x2||(x4||smG a.2.2.2.2.2.2.2.2.1.2.1)
 let x6:= !x5
 let x7:=x1.2
 let x8:=x7.2
 let x9:=x8.1
 let x10:= !x9
 let x11:=x10&&ZbK a.2.2.2.1==3
 let x12:=x11&&ZaS a.2.2.2.1.2.2.2.1.1
 let x13:=smG a.2.2.2.2.2.2.2.2.1.2.1&&smC a.2.2.2.2.1
 let x14:= !x12||(x4||x13)
 let x15:= !x14
 let x16:=x11&&ZbY a.2.2.2.1.2.2.2.1.1
 let x17:= !x16
 let x18:= !a.2.2.2.1.2.2.2.1.1 !=7||x13
 let x19:List (Int×Int):=a.2.2.2.2.2.2.2.2.2.2.2.1++[(u8.wrap a.2.2.2.1.2.2.2.1.2.1,a.2.2.2.1.2.2.2.1.2.2.1)]
 let x20:=x17||(!x18||(a.2.2.2.1.2.2.2.1.1 !=7||Nat.ble (Le x19) most))
 let x21:= !x20
 let p7:=x21::(!Zng a.2.2.2.1)::x15::x6::[]
 let x22:=x17||x18
 let x23:= !x22
 let p14:=x23::p7
 let x24:Int:=bif a.2.2.2.1.2.2.2.2.1==7 then i64.wrap (a.2.2.2.2.2.2.2.1+1) else 0
 let x25:Int:=if 100<a.2.2.2.2.2.2.2.2.1.2.2.1 then 100 else a.2.2.2.2.2.2.2.2.1.2.2.1
 let x26:=x8.2
 let x27:=x26.2
 let x28:=x27.2
 let x29:=x28.2
 let x30:=x29.2
 let x31:=a.2.2.2.2.2.2.2.2.1.2.2.2.2
 let x32:=x31.2.1
 let x33:=x30.2
 let x34:=x33.1
 let x35:=Zfa a.2.2.2.2.2.1 x34
 let x36:LINT:=(x2&&bif x3 then decide (x24>=ZiD a.2.2.2.2.2.2.2.2.1.2.1 a.2.2.2.1.2.2.2.1.2.1) else bif a.2.2.2.1.2.2.2.1.1==6||a.2.2.2.1.2.2.2.1.1==7 then decide (x24>=if x25>0 then x25 else 0) else decide (x24>=0),x7.1||Zag a.2.2.2.2.2.2.1,x9,x26.1,x27.1,x28.1,x29.1,x30.1,bif x32 then andI u8 x34 1==1 else vInt x35)
 let x37:=a.2.2.2.1.2.2.2.1.1==8||a.2.2.2.1.2.2.2.1.1==9
 let x38:= !x32
 let x39:Int:=bif x32 then a.2.2.2.2.2.1.1 else x35.1
 let x40:=x35.2
 let x41:=bif x32 then a.2.2.2.2.2.1.2.1 else x40.1
 let x42:=x40.2
 let x43:=bif x32 then a.2.2.2.2.2.1.2.2.1 else x42.1
 let x44:=x42.2
 let x45:=bif x32 then a.2.2.2.2.2.1.2.2.2.1 else x44.1
 let x46:=x44.2
 let x47:=bif x32 then a.2.2.2.2.2.1.2.2.2.2.1 else x46.1
 let x48:=x46.2
 let x49:Int:=bif x32 then a.2.2.2.2.2.1.2.2.2.2.2.1 else x48.1
 let x50:=x48.2
 let x51:Int:=bif x32 then a.2.2.2.2.2.1.2.2.2.2.2.2.1 else x50.1
 let x52:=a.2.2.2.2.2.1.2.2.2.2.2.2.2
 let x53:=x50.2
 let x54:=bif x32 then x52.1 else x53.1
 let x55:=x52.2
 let x56:=x53.2
 let x57:=bif x32 then x55.1 else x56.1
 let x58:=x55.2
 let x59:=x56.2
 let x60:=bif x32 then x58.1 else x59.1
 let x61:=x58.2
 let x62:=x59.2
 let x63:=bif x32 then x61.1 else x62.1
 let x64:=x61.2
 let x65:=x62.2
 let x66:=bif x32 then x64.1 else x65.1
 let x67:=x64.2
 let x68:=x65.2
 let x69:Int:=bif x32 then x67.1 else x68.1
 let x70:=x67.2
 let x71:=x68.2
 let x72:Int:=bif x32 then x70.1 else x71.1
 let x73:=x70.2
 let x74:=x71.2
 let x75:Int:=bif x32 then x73.1 else x74.1
 let x76:=x73.2
 let x77:=x74.2
 let x78:Int:=bif x32 then x76.1 else x77.1
 let x79:=x76.2
 let x80:=x77.2
 let x81:Int:=bif x32 then x79.1 else x80.1
 let x82:=x79.2
 let x83:=x80.2
 let x84:Int:=bif x32 then x82.1 else x83.1
 let x85:=x82.2
 let x86:=x83.2
 let x87:Int:=bif x32 then x85.1 else x86.1
 let x88:=bif x32 then x85.2 else x86.2
 let x89:PICT:=(x39,x41,x43,x45,x47,x49,x51,x54,x57,x60,x63,x66,x69,x72,x75,x78,x81,x84,x87,x88)
 let x90:=vAck x89
 let x91:=x33.2
 let x92:=u8.wrap (u8.wrap a.2.2.2.1.2.2.2.1.2.1-a.2.2.2.2.2.2.2.2.1.2.2.2.1)
 let x93:=x38&&decide (x92<2)
 let x94:=x92==1
 let x95:=bif x38 then x94 else x94
 let x96:=Zql x89 x95
 let x97:=u8.wrap (u8.wrap a.2.2.2.1.2.2.2.1.2.1-x31.1)
 let x98:=decide (x97<4)
 let x99:=i64.wrap x97
 let x100:Int:=bif x12 then bif x3 then Zge a.2.2.2.2.2.2.2.2.1.2.1 a.2.2.2.2.1 a.2.2.2.1.2.2.2.1.2.1 else bif x37 then bif x38 then x90.2 else x91 else bif x93 then x96.2 else bif x98 then ZmJ a.2.2.2.2.2.2.1 x99 else x91 else 0
 let x101:=clkX a.2.2.2.1 x36 x100
 let x102:=x101.2
 let x103:=Zic a.2.2.2.2.2.2.1 x99 a.2.2.2.1.2.2.2.1.2.2.1
 let x104:Int:=bif x16 then bif a.2.2.2.1.2.2.2.1.1 !=7 then a.2.2.2.2.2.2.1.1 else bif x93 then a.2.2.2.2.2.2.1.1 else bif x98 then x103.1 else a.2.2.2.2.2.2.1.1 else a.2.2.2.2.2.2.1.1
 let x105:=x103.2
 let x106:Int:=bif x16 then bif a.2.2.2.1.2.2.2.1.1 !=7 then a.2.2.2.2.2.2.1.2.1 else bif x93 then a.2.2.2.2.2.2.1.2.1 else bif x98 then x105.1 else a.2.2.2.2.2.2.1.2.1 else a.2.2.2.2.2.2.1.2.1
 let x107:Int:=bif x16 then bif a.2.2.2.1.2.2.2.1.1 !=7 then a.2.2.2.2.2.2.1.2.2 else bif x93 then a.2.2.2.2.2.2.1.2.2 else bif x98 then x105.2 else a.2.2.2.2.2.2.1.2.2 else a.2.2.2.2.2.2.1.2.2
 let x108:QT3:=(x104,x106,x107)
 let x109:=x102.2.2.2.2.2.2.2.2.2.2.2.2.2.2.2.1&&Zag x108
 let x110:List (Int×Int):=bif x16 then bif a.2.2.2.1.2.2.2.1.1 !=7 then ZaL a.2.2.2.2.2.2.2.2.1.2.1 a.2.2.2.2.1 a.2.2.2.1.2.2.2.1.2.1 a.2.2.2.1.2.2.2.1.2.2.1 else a.2.2.2.2.1 else a.2.2.2.2.1
 let x111:= !x109||smG a.2.2.2.2.2.2.2.2.1.2.1&&smC x110
 let x112:= !x111
 let p17:=x112::p14
 let x113:=a.2.2.2.2.2.2.2.2.2.2.2.2.1
 let x114:List PINT:=x113++[x102]
 let x115:=Nat.ble (Le x114) most
 let x116:= !x115
 let p20:=x116::p17
 let x117:=x102.1
 let x118:=x117 !=10
 let x119:= !x118||Zng a.2.2.2.1&&x10
 let x120:= !x119
 let p27:=x120::p20
 let x121:=x117==1
 let x122:=a.2.2.2.2.2.2.2.2.2.2.2.2.2
 let x123:=x122.1
 let x124:=ZaJ a.2.2.2.1 x36 x100
 let x125:=x124.2
 let x126:=x125.2
 let x127:=x126.2
 let x128:=x127.1
 let x129:=x128.2
 let x130:=x129.2
 let x131:QT18:=(bif x118 then x128.1 else 0,bif x118 then x129.1 else 0,bif x118 then x130.1 else 0,bif x118 then x130.2 else 0)
 let x132:=a.2.2.2.1.1.2.2.2.2.2.2.2.2
 let x133:=x132.2
 let x134:=x133.2.2.2
 let x135:Int×Int×Bool×Bool:=(0,1,a.2.2.2.1.1.2.2.1,x134)
 let x136:List ITMT:=x123++[(1,x131,x135)]
 let x137:= !x121||Nat.ble (Le x136) most
 let x138:= !x137
 let x139:=x117==7
 let x140:= !x139
 let x141:Nat:=Le x123
 let x142:=iN x141
 let x143:=i64.wrap (x142-1)
 let x144:=Zf x143 x141
 let x145:=x121||(x140||(!x144||x144))
 let x146:= !x145
 let x147:=x121||(x140||x144)
 let x148:= !x147
 let x149:=x117==2
 let x150:=x117==3
 let x151:=x117==4
 let x152:=x117==5
 let x153:=bif x149 then x149 else bif x150 then x150 else bif x151 then x151 else bif x152 then x152 else x117==6
 let x154:= !x153
 let x155:=x121||(x139||(x154||x144))
 let x156:= !x155
 let p1:=x156::x148::x146::x138::[]
 let x157:ITMT:=R.get ZlI x123 x143
 let x158:=x157.1
 let x159:=x157.2
 let x160:=x159.1
 let x161:=x159.2
 let x162:=x161.1
 let x163:=x161.2
 let x164:=x163.2
 let x165:=setI x123 x143 (x158,x160,x162,x117,x164)
 let x166:=x121||(x139||(x154||Zf x143 (Le x165)))
 let x167:= !x166
 let p13:=x167::p1
 let x168:=x117==8
 let x169:= !x168
 let p3:=x169::x153::x139::x121::[]
 let x170:=decide (x142>0)
 let x171:= !x170
 let x172:=x171||x144
 let x173:= !x172
 let p18:=x170::x173::p3
 let x174:=x164.1==a.2.2.2.1.1.2.2.1&&x164.2==x134
 let x175:=x158==2&&x174
 let p22:=x175::x171::x173::p3
 let x176:TY×Int×Int×Bool×Bool:=((0,0,0,0),x135)
 let x177:List ITMT:=x123++[(2,x176)]
 let x178:=Nat.ble (Le x177) most
 let x179:=orR p22 x178
 let x180:= !x179
 let p19:=x180::p13
 let x181:=orR p18 x178
 let x182:= !x181
 let p21:=x182::p19
 let x183:=orR p3 x172
 let x184:= !x183
 let p32:=x184::p21
 let x185:=x117==9
 let x186:= !x185
 let p10:=x186::x168::x153::x139::x121::[]
 let p23:=x170::x173::p10
 let x187:=x158==3&&x174
 let p31:=x187::x171::x173::p10
 let x188:List ITMT:=x123++[(3,(0,a.2.2.2.1.1.2.1.2.2.2.2.2.2.2.2.2,0,0),x135)]
 let x189:=Nat.ble (Le x188) most
 let x190:=orR p31 x189
 let x191:= !x190
 let p35:=x191::p32
 let x192:=orR p23 x189
 let x193:= !x192
 let p38:=x193::p35
 let x194:=orR p10 x172
 let x195:= !x194
 let p43:=x195::p38
 let x196:=x117==10
 let x197:= !x196
 let p26:=x170::x173::x197::x185::x168::x153::x139::x121::[]
 let x198:=x158==4&&x174
 let p37:=x198::x171::x173::x197::x185::x168::x153::x139::x121::[]
 let x199:List ITMT:=x123++[(4,x176)]
 let x200:=Nat.ble (Le x199) most
 let x201:=orR p37 x200
 let x202:= !x201
 let p48:=x202::p43
 let x203:=orR p26 x200
 let p64:=x197::x185::x168::x153::x139::x121::(!x203)::p48
 let x204:=orR p64 x172
 let x205:= !x204
 let x206:=orR p48 x203
 let x207:= !x206
 let x208:=orR p43 x201
 let x209:= !x208
 let x210:=orR p38 x194
 let x211:= !x210
 let p5:=x211::x209::x207::x205::[]
 let x212:=orR p35 x192
 let x213:= !x212
 let p9:=x213::p5
 let x214:=orR p32 x190
 let x215:= !x214
 let p15:=x215::p9
 let x216:=orR p21 x183
 let x217:= !x216
 let p25:=x217::p15
 let x218:=orR p19 x181
 let x219:= !x218
 let p28:=x219::p25
 let x220:=orR p13 x179
 let x221:= !x220
 let p33:=x221::p28
 let x222:=orR p1 x166
 let x223:= !x222
 let p41:=x223::p33
 let x224:=x138||(x146||(x148||x155))
 let x225:= !x224
 let p44:=x225::p41
 let x226:=x138||(x146||x147)
 let x227:= !x226
 let p46:=x227::p44
 let x228:=x138||x145
 let p52:=(!x228)::p46
 let x229:=orR p52 x137
 let x230:= !x229
 let p34:=x230::p27
 let x231:=orR p46 x228
 let x232:= !x231
 let p39:=x232::p34
 let x233:=orR p44 x226
 let x234:= !x233
 let p45:=x234::p39
 let x235:=orR p41 x224
 let x236:= !x235
 let p47:=x236::p45
 let x237:=orR p33 x222
 let x238:= !x237
 let p50:=x238::p47
 let x239:=orR p28 x220
 let x240:= !x239
 let p53:=x240::p50
 let x241:=orR p25 x218
 let x242:= !x241
 let p55:=x242::p53
 let x243:=orR p15 x216
 let x244:= !x243
 let p58:=x244::p55
 let x245:=orR p9 x214
 let x246:= !x245
 let p60:=x246::p58
 let x247:=orR p5 x212
 let x248:= !x247
 let p62:=x248::p60
 let x249:=x205||(x207||(x209||x210))
 let x250:= !x249
 let p65:=x250::p62
 let x251:=x205||(x207||x208)
 let x252:= !x251
 let p66:=x252::p65
 let x253:=x205||x206
 let x254:= !x253
 let p68:=x254::p66
 let p70:=x205::p68
 let x255:= !ZuN a.2.2.2.1||Nat.ble (Le a.2.2.2.1.2.2.1) most
 let x256:= !x255
 let x257:=x122.2
 let x258:=x257.1
 let x259:LINT×Bool×Bool×Bool×Bool×Int×Int:=(x36,a.2.2.2.1.1.2.2.2.2.2.2.2.1,a.2.2.2.1.1.2.2.2.2.2.2.1,x133.1,x132.1,0,0)
 let x260:List EVTT:=x258++[(6,a.2.2.2.1.2.1,a.2.2.2.1.2.2.1,x259)]
 let x261:=Nat.ble (Le x260) most
 let x262:=x257.2.1
 let x263:List TC:=x262++[a.2.2.2.2.2.2.2.2.2.2.1]
 let x264:= !ZuN a.2.2.2.1||(!x261||Nat.ble (Le x263) most)
 let x265:= !x264
 let x266:= !ZuN a.2.2.2.1||x261
 let x267:= !x266
 let p6:=x267::x265::x256::x197::[]
 let x268:List EVTT:=(bif ZuN a.2.2.2.1 then x260 else x258)++[(4,0,[],x259)]
 let x269:=Nat.ble (Le x268) most
 let x270:=x101.1
 let x271:=x270.1
 let x272:List TC:=(bif ZuN a.2.2.2.1 then x263 else x262)++[x271]
 let x273:= !x269||Nat.ble (Le x272) most
 let p12:=(!x273)::p6
 let x274:=orR p12 x269
 let x275:= !x274
 let x276:=orR p6 x273
 let x277:= !x276
 let x278:=x197||(x256||(x265||x266))
 let x279:= !x278
 let x280:=x197||(x256||x264)
 let x281:= !x280
 let p4:=x281::x279::x277::x275::[]
 let x282:=x197||x255
 let x283:= !x282
 let p8:=x283::p4
 let x284:=x118&&x124.1
 let x285:= !x284
 let x286:=x127.2.2.2.2.2.2.2
 let x287:=x286.2
 let x288:=x287.2
 let x289:List EVTT:=x258++[(bif a.2.2.2.1.2.1==0 then 1 else bif a.2.2.2.1.2.1==5 then 2 else 3,a.2.2.2.1.2.1,bif x118 then x126.1 else [],x36,x118&&x287.1,x118&&x286.1,x118&&x288.2.1,x118&&x288.1,0,0)]
 let x290:=Nat.ble (Le x289) most
 let x291:=x125.1
 let x292:Int:=bif x118 then x291.1 else 0
 let x293:=x291.2
 let x294:=x293.1
 let x295:Int:=bif x118 then x294.1 else 0
 let x296:=x294.2
 let x297:Int:=bif x118 then x296.1 else 0
 let x298:=x296.2
 let x299:Int:=bif x118 then x298.1 else 0
 let x300:=x298.2
 let x301:Int:=bif x118 then x300.1 else 0
 let x302:=x300.2
 let x303:Int:=bif x118 then x302.1 else 0
 let x304:=x302.2
 let x305:Int:=bif x118 then x304.1 else 0
 let x306:=x304.2
 let x307:Int:=bif x118 then x306.1 else 0
 let x308:=x306.2
 let x309:=x308.1
 let x310:=x118&&x309.1
 let x311:=x309.2
 let x312:=x118&&x311.1
 let x313:=x311.2
 let x314:=x118&&x313.1
 let x315:=x313.2
 let x316:=x118&&x315.1
 let x317:=x315.2
 let x318:=x118&&x317.1
 let x319:=x317.2
 let x320:=x118&&x319.1
 let x321:=x118&&x319.2
 let x322:=x308.2
 let x323:Int:=bif x118 then x322.1 else 0
 let x324:Int:=bif x118 then x322.2 else 0
 let x325:=x293.2
 let x326:=x118&&x325.1
 let x327:=x325.2
 let x328:=x118&&x327.1
 let x329:=x327.2
 let x330:=x118&&x329.1
 let x331:=x329.2
 let x332:Int:=bif x118 then x331.1 else 0
 let x333:=x331.2
 let x334:=x118&&x333.1
 let x335:=x333.2
 let x336:=x118&&x335.1
 let x337:=x335.2
 let x338:=x118&&x337.1
 let x339:=x337.2
 let x340:=x118&&x339.1
 let x341:=x339.2
 let x342:=x118&&x341.1
 let x343:=x341.2
 let x344:=x118&&x343.1
 let x345:=x118&&x343.2
 let x346:List TC:=x262++[(x292,(x295,x297,x299,x301,x303,x305,x307,(x310,x312,x314,x316,x318,x320,x321),x323,x324),x326,x328,x330,x332,x334,x336,x338,x340,x342,x344,x345)]
 let x347:=x196||(x285||(!x290||Nat.ble (Le x346) most))
 let p30:=x285::x196::(!x347)::p8
 let x348:=orR p30 x290
 let x349:= !x348
 let p72:=x349::p70
 let x350:=orR p8 x347
 let x351:= !x350
 let p75:=x351::p72
 let x352:=orR p4 x282
 let x353:= !x352
 let p77:=x353::p75
 let x354:=x275||(x277||(x279||x280))
 let x355:= !x354
 let p79:=x355::p77
 let x356:=x275||(x277||x278)
 let x357:= !x356
 let p81:=x357::p79
 let x358:=x275||x276
 let x359:= !x358
 let p82:=x359::p81
 let p84:=x275::p82
 let x360:=ZbH x108
 let x361:=x360.2
 let x362:=x109&&x361.2
 let x363:= !x362
 let x364:List EVTT:=bif x196 then x268 else bif x284 then x289 else x258
 let x365:=x361.1
 let x366:=x365.1
 let x367:=x365.2
 let x368:List EVTT:=x364++[(5,0,[],(false,false,false,false,false,false,false,false,false),false,false,false,false,bif x109 then x366 else 0,bif x109 then x367 else 0)]
 let x369:=Nat.ble (Le x368) most
 let x370:List TC:=bif x196 then x272 else bif x284 then x346 else x262
 let x371:Int:=bif x196 then x271.1 else bif x284 then x292 else a.2.2.2.2.2.2.2.2.2.2.1.1
 let x372:=x271.2
 let x373:=x372.1
 let x374:=a.2.2.2.2.2.2.2.2.2.2.1.2.1
 let x375:Int:=bif x196 then x373.1 else bif x284 then x295 else x374.1
 let x376:=x373.2
 let x377:=x374.2
 let x378:Int:=bif x196 then x376.1 else bif x284 then x297 else x377.1
 let x379:=x376.2
 let x380:=x377.2
 let x381:Int:=bif x196 then x379.1 else bif x284 then x299 else x380.1
 let x382:=x379.2
 let x383:=x380.2
 let x384:Int:=bif x196 then x382.1 else bif x284 then x301 else x383.1
 let x385:=x382.2
 let x386:=x383.2
 let x387:Int:=bif x196 then x385.1 else bif x284 then x303 else x386.1
 let x388:=x385.2
 let x389:=x386.2
 let x390:Int:=bif x196 then x388.1 else bif x284 then x305 else x389.1
 let x391:=x388.2
 let x392:=x389.2
 let x393:Int:=bif x196 then x391.1 else bif x284 then x307 else x392.1
 let x394:=x391.2
 let x395:=x394.1
 let x396:=x392.2
 let x397:=x396.1
 let x398:=bif x196 then x395.1 else bif x284 then x310 else x397.1
 let x399:=x395.2
 let x400:=x397.2
 let x401:=bif x196 then x399.1 else bif x284 then x312 else x400.1
 let x402:=x399.2
 let x403:=x400.2
 let x404:=bif x196 then x402.1 else bif x284 then x314 else x403.1
 let x405:=x402.2
 let x406:=x403.2
 let x407:=bif x196 then x405.1 else bif x284 then x316 else x406.1
 let x408:=x405.2
 let x409:=x406.2
 let x410:=bif x196 then x408.1 else bif x284 then x318 else x409.1
 let x411:=x408.2
 let x412:=x409.2
 let x413:=bif x196 then x411.1 else bif x284 then x320 else x412.1
 let x414:=bif x196 then x411.2 else bif x284 then x321 else x412.2
 let x415:=x394.2
 let x416:=x396.2
 let x417:Int:=bif x196 then x415.1 else bif x284 then x323 else x416.1
 let x418:Int:=bif x196 then x415.2 else bif x284 then x324 else x416.2
 let x419:=x372.2
 let x420:=a.2.2.2.2.2.2.2.2.2.2.1.2.2
 let x421:=bif x196 then x419.1 else bif x284 then x326 else x420.1
 let x422:=x419.2
 let x423:=x420.2
 let x424:=bif x196 then x422.1 else bif x284 then x328 else x423.1
 let x425:=x422.2
 let x426:=x423.2
 let x427:=bif x196 then x425.1 else bif x284 then x330 else x426.1
 let x428:=x425.2
 let x429:=x426.2
 let x430:Int:=bif x196 then x428.1 else bif x284 then x332 else x429.1
 let x431:=x428.2
 let x432:=x429.2
 let x433:=bif x196 then x431.1 else bif x284 then x334 else x432.1
 let x434:=x431.2
 let x435:=x432.2
 let x436:=bif x196 then x434.1 else bif x284 then x336 else x435.1
 let x437:=x434.2
 let x438:=x435.2
 let x439:=bif x196 then x437.1 else bif x284 then x338 else x438.1
 let x440:=x437.2
 let x441:=x438.2
 let x442:=bif x196 then x440.1 else bif x284 then x340 else x441.1
 let x443:=x440.2
 let x444:=x441.2
 let x445:=bif x196 then x443.1 else bif x284 then x342 else x444.1
 let x446:=x443.2
 let x447:=x444.2
 let x448:=bif x196 then x446.1 else bif x284 then x344 else x447.1
 let x449:=bif x196 then x446.2 else bif x284 then x345 else x447.2
 let x450:List TC:=x370++[(x371,(x375,x378,x381,x384,x387,x390,x393,(x398,x401,x404,x407,x410,x413,x414),x417,x418),x421,x424,x427,x430,x433,x436,x439,x442,x445,x448,x449)]
 let x451:=x363||(!x369||Nat.ble (Le x450) most)
 let p88:=x363::(!x451)::p84
 let x452:=orR p88 x369
 let x453:= !x452
 let x454:=orR p84 x451
 let x455:= !x454
 let x456:=orR p82 x274
 let x457:= !x456
 let p2:=x457::x455::x453::(!Zf a.2.2.1 (Le a.1))::[]
 let x458:=orR p81 x358
 let x459:= !x458
 let p11:=x459::p2
 let x460:=orR p79 x356
 let x461:= !x460
 let p16:=x461::p11
 let x462:=orR p77 x354
 let x463:= !x462
 let p24:=x463::p16
 let x464:=orR p75 x352
 let x465:= !x464
 let p29:=x465::p24
 let x466:=orR p72 x350
 let x467:= !x466
 let p36:=x467::p29
 let x468:=orR p70 x348
 let x469:= !x468
 let p40:=x469::p36
 let x470:=orR p68 x204
 let x471:= !x470
 let p42:=x471::p40
 let x472:=orR p66 x253
 let x473:= !x472
 let p49:=x473::p42
 let x474:=orR p65 x251
 let x475:= !x474
 let p51:=x475::p49
 let x476:=orR p62 x249
 let x477:= !x476
 let p54:=x477::p51
 let x478:=orR p60 x247
 let x479:= !x478
 let p56:=x479::p54
 let x480:=orR p58 x245
 let x481:= !x480
 let p57:=x481::p56
 let x482:=orR p55 x243
 let x483:= !x482
 let p59:=x483::p57
 let x484:=orR p53 x241
 let x485:= !x484
 let p61:=x485::p59
 let x486:=orR p50 x239
 let x487:= !x486
 let p63:=x487::p61
 let x488:=orR p47 x237
 let x489:= !x488
 let p67:=x489::p63
 let x490:=orR p45 x235
 let x491:= !x490
 let p69:=x491::p67
 let x492:=orR p39 x233
 let x493:= !x492
 let p71:=x493::p69
 let x494:=orR p34 x231
 let x495:= !x494
 let p73:=x495::p71
 let x496:=orR p27 x229
 let x497:= !x496
 let p74:=x497::p73
 let x498:=orR p20 x119
 let x499:= !x498
 let p76:=x499::p74
 let x500:=orR p17 x115
 let x501:= !x500
 let p78:=x501::p76
 let x502:=orR p14 x111
 let x503:= !x502
 let p80:=x503::p78
 let x504:=orR p7 x22
 let x505:= !x504
 let p83:=x505::p80
 let x506:=x6||(x15||(!Zng a.2.2.2.1||x20))
 let x507:= !x506
 let p85:=x507::p83
 let x508:=x6||(x15||Zng a.2.2.2.1)
 let x509:= !x508
 let p86:=x509::p85
 let x510:=x6||x14
 let p87:=(!x510)::p86
 let x511:=x90.1
 let x512:=x96.1
 let x513:Int:=bif x12 then bif x3 then x39 else bif x37 then bif x38 then x511.1 else x39 else bif x93 then x512.1 else x39 else x39
 let x514:=x511.2
 let x515:=x512.2
 let x516:=bif x12 then bif x3 then x41 else bif x37 then bif x38 then x514.1 else x41 else bif x93 then x515.1 else x41 else x41
 let x517:=x514.2
 let x518:=x515.2
 let x519:=bif x12 then bif x3 then x43 else bif x37 then bif x38 then x517.1 else x43 else bif x93 then x518.1 else x43 else x43
 let x520:=x517.2
 let x521:=x518.2
 let x522:=bif x12 then bif x3 then x45 else bif x37 then bif x38 then x520.1 else x45 else bif x93 then x521.1 else x45 else x45
 let x523:=x520.2
 let x524:=x521.2
 let x525:=bif x12 then bif x3 then x47 else bif x37 then bif x38 then x523.1 else x47 else bif x93 then x524.1 else x47 else x47
 let x526:=x523.2
 let x527:=x524.2
 let x528:Int:=bif x12 then bif x3 then x49 else bif x37 then bif x38 then x526.1 else x49 else bif x93 then x527.1 else x49 else x49
 let x529:=x526.2
 let x530:=x527.2
 let x531:Int:=bif x12 then bif x3 then x51 else bif x37 then bif x38 then x529.1 else x51 else bif x93 then x530.1 else x51 else x51
 let x532:=x529.2
 let x533:=x530.2
 let x534:=bif x12 then bif x3 then x54 else bif x37 then bif x38 then x532.1 else x54 else bif x93 then x533.1 else x54 else x54
 let x535:=x532.2
 let x536:=x533.2
 let x537:=bif x12 then bif x3 then x57 else bif x37 then bif x38 then x535.1 else x57 else bif x93 then x536.1 else x57 else x57
 let x538:=x535.2
 let x539:=x536.2
 let x540:=bif x12 then bif x3 then x60 else bif x37 then bif x38 then x538.1 else x60 else bif x93 then x539.1 else x60 else x60
 let x541:=x538.2
 let x542:=x539.2
 let x543:=bif x12 then bif x3 then x63 else bif x37 then bif x38 then x541.1 else x63 else bif x93 then x542.1 else x63 else x63
 let x544:=x541.2
 let x545:=x542.2
 let x546:=bif x12 then bif x3 then x66 else bif x37 then bif x38 then x544.1 else x66 else bif x93 then x545.1 else x66 else x66
 let x547:=x544.2
 let x548:=x545.2
 let x549:Int:=bif x12 then bif x3 then x69 else bif x37 then bif x38 then x547.1 else x69 else bif x93 then x548.1 else x69 else x69
 let x550:=x547.2
 let x551:=x548.2
 let x552:Int:=bif x12 then bif x3 then x72 else bif x37 then bif x38 then x550.1 else x72 else bif x93 then x551.1 else x72 else x72
 let x553:=x550.2
 let x554:=x551.2
 let x555:Int:=bif x12 then bif x3 then x75 else bif x37 then bif x38 then x553.1 else x75 else bif x93 then x554.1 else x75 else x75
 let x556:=x553.2
 let x557:=x554.2
 let x558:Int:=bif x12 then bif x3 then x78 else bif x37 then bif x38 then x556.1 else x78 else bif x93 then x557.1 else x78 else x78
 let x559:=x556.2
 let x560:=x557.2
 let x561:Int:=bif x12 then bif x3 then x81 else bif x37 then bif x38 then x559.1 else x81 else bif x93 then x560.1 else x81 else x81
 let x562:=x559.2
 let x563:=x560.2
 let x564:Int:=bif x12 then bif x3 then x84 else bif x37 then bif x38 then x562.1 else x84 else bif x93 then x563.1 else x84 else x84
 let x565:=x562.2
 let x566:=x563.2
 let x567:Int:=bif x12 then bif x3 then x87 else bif x37 then bif x38 then x565.1 else x87 else bif x93 then x566.1 else x87 else x87
 let x568:=bif x12 then bif x3 then x88 else bif x37 then bif x38 then x565.2 else x88 else bif x93 then x566.2 else x88 else x88
 let x569:=ZmI (x513,x516,x519,x522,x525,x528,x531,x534,x537,x540,x543,x546,x549,x552,x555,x558,x561,x564,x567,x568) x95 a.2.2.2.1.2.2.2.1.2.2.1
 let x570:=x569.2
 let x571:=x570.2
 let x572:=x571.2
 let x573:=x572.2
 let x574:=x573.2
 let x575:=x574.2
 let x576:=x575.2
 let x577:=x576.2
 let x578:=x577.2
 let x579:=x578.2
 let x580:=x579.2
 let x581:=x580.2
 let x582:=x581.2
 let x583:=x582.2
 let x584:=x583.2
 let x585:=x584.2
 let x586:=x585.2
 let x587:=x586.2
 let x588:=x360.1
 let x589:=x588.2
 let x590:ITMT:=R.get ZlI x165 x143
 let x591:=setI x123 x143 (x158,x160,x162,i64.wrap (x163.1+1),x164)
 .br (decide (a.2.2.1<a.2.1)) (.br (orR p87 x5) (.br (orR p86 x510) (.br (orR p85 x508) (.br (orR p83 x506) (.br (orR p80 x504) (.br (orR p78 x502) (.br (orR p76 x500) (.br (orR p74 x498) (.br (orR p73 x496) (.br (orR p71 x494) (.br (orR p69 x492) (.br (orR p67 x490) (.br (orR p63 x488) (.br (orR p61 x486) (.br (orR p59 x484) (.br (orR p57 x482) (.br (orR p56 x480) (.br (orR p54 x478) (.br (orR p51 x476) (.br (orR p49 x474) (.br (orR p42 x472) (.br (orR p40 x470) (.br (orR p36 x468) (.br (orR p29 x466) (.br (orR p24 x464) (.br (orR p16 x462) (.br (orR p11 x460) (.br (orR p2 x458) (.br (!Zf a.2.2.1 (Le a.1)||(x453||(x455||x456))) (.br (!Zf a.2.2.1 (Le a.1)||(x453||x454)) (.br (!Zf a.2.2.1 (Le a.1)||x452) (.br (Zf a.2.2.1 (Le a.1)) (Ls (Go1.cont (a.1,a.2.1,i64.wrap (a.2.2.1+1),x270,bif x109 then ZaL a.2.2.2.2.2.2.2.2.1.2.1 x110 x366 x367 else x110,(bif x16 then bif a.2.2.2.1.2.2.2.1.1 !=7 then x513 else bif x93 then x569.1 else x513 else x513,bif x16 then bif a.2.2.2.1.2.2.2.1.1 !=7 then x516 else bif x93 then x570.1 else x516 else x516,bif x16 then bif a.2.2.2.1.2.2.2.1.1 !=7 then x519 else bif x93 then x571.1 else x519 else x519,bif x16 then bif a.2.2.2.1.2.2.2.1.1 !=7 then x522 else bif x93 then x572.1 else x522 else x522,bif x16 then bif a.2.2.2.1.2.2.2.1.1 !=7 then x525 else bif x93 then x573.1 else x525 else x525,bif x16 then bif a.2.2.2.1.2.2.2.1.1 !=7 then x528 else bif x93 then x574.1 else x528 else x528,bif x16 then bif a.2.2.2.1.2.2.2.1.1 !=7 then x531 else bif x93 then x575.1 else x531 else x531,bif x16 then bif a.2.2.2.1.2.2.2.1.1 !=7 then x534 else bif x93 then x576.1 else x534 else x534,bif x16 then bif a.2.2.2.1.2.2.2.1.1 !=7 then x537 else bif x93 then x577.1 else x537 else x537,bif x16 then bif a.2.2.2.1.2.2.2.1.1 !=7 then x540 else bif x93 then x578.1 else x540 else x540,bif x16 then bif a.2.2.2.1.2.2.2.1.1 !=7 then x543 else bif x93 then x579.1 else x543 else x543,bif x16 then bif a.2.2.2.1.2.2.2.1.1 !=7 then x546 else bif x93 then x580.1 else x546 else x546,bif x16 then bif a.2.2.2.1.2.2.2.1.1 !=7 then x549 else bif x93 then x581.1 else x549 else x549,bif x16 then bif a.2.2.2.1.2.2.2.1.1 !=7 then x552 else bif x93 then x582.1 else x552 else x552,bif x16 then bif a.2.2.2.1.2.2.2.1.1 !=7 then x555 else bif x93 then x583.1 else x555 else x555,bif x16 then bif a.2.2.2.1.2.2.2.1.1 !=7 then x558 else bif x93 then x584.1 else x558 else x558,bif x16 then bif a.2.2.2.1.2.2.2.1.1 !=7 then x561 else bif x93 then x585.1 else x561 else x561,bif x9 then 0 else bif x16 then bif a.2.2.2.1.2.2.2.1.1 !=7 then x564 else bif x93 then x586.1 else x564 else x564,bif x16 then bif a.2.2.2.1.2.2.2.1.1 !=7 then x567 else bif x93 then x587.1 else x567 else x567,bif x16 then bif a.2.2.2.1.2.2.2.1.1 !=7 then x568 else bif x93 then x587.2 else x568 else x568),(bif x109 then x588.1 else x104,bif x109 then x589.1 else x106,bif x9 then 0 else bif x109 then x589.2 else x107),x24,a.2.2.2.2.2.2.2.2.1,a.2.2.2.2.2.2.2.2.2.1,(bif x362 then x371 else x371,(bif x362 then x375 else x375,bif x362 then x378 else x378,bif x362 then x381 else x381,bif x362 then x384 else x384,bif x362 then x387 else x387,bif x362 then x390 else x390,bif x362 then x393 else x393,(bif x362 then x398 else x398,bif x362 then x401 else x401,bif x362 then x404 else x404,bif x362 then x407 else x407,bif x362 then x410 else x410,bif x362 then x413 else x413,bif x362 then x414 else x414),bif x362 then x417 else x417,bif x362 then x418 else x418),bif x362 then x421 else x421,bif x362 then x424 else x424,bif x362 then x427 else x427,bif x362 then x430 else x430,bif x362 then x433 else x433,bif x362 then x436 else x436,bif x362 then x439 else x439,bif x362 then x442 else x442,bif x362 then x445 else x445,bif x362 then x448 else x448,bif x362 then x449 else x449),bif x16 then bif a.2.2.2.1.2.2.2.1.1 !=7 then a.2.2.2.2.2.2.2.2.2.2.2.1 else x19 else a.2.2.2.2.2.2.2.2.2.2.2.1,x114,bif x121 then x136 else bif x139 then setI x123 x143 (x158,x160,i64.wrap (x162+1),x163) else bif x153 then setI x165 x143 (x590.1,x131,x590.2.2) else bif x168 then bif x170 then bif x175 then x591 else x177 else x177 else bif x185 then bif x170 then bif x187 then x591 else x188 else x188 else bif x196 then bif x170 then bif x198 then x591 else x199 else x199 else x123,bif x362 then x368 else x364,bif x362 then x450 else x370,PUnit.unit))) Ln) Ln) Ln) Ln) Ln) Ln) Ln) Ln) Ln) Ln) Ln) Ln) Ln) Ln) Ln) Ln) Ln) Ln) Ln) Ln) Ln) Ln) Ln) Ln) Ln) Ln) Ln) Ln) Ln) Ln) Ln) Ln) (Ls (Go1.brk (a.1,a.2.1,a.2.2.1,a.2.2.2.1,a.2.2.2.2.1,a.2.2.2.2.2.1,a.2.2.2.2.2.2.1,a.2.2.2.2.2.2.2.1,a.2.2.2.2.2.2.2.2.1,a.2.2.2.2.2.2.2.2.2.1,a.2.2.2.2.2.2.2.2.2.2.1,a.2.2.2.2.2.2.2.2.2.2.2.1,x113,x123,x258,x262,PUnit.unit)))
def ZGK:Ora:=ZaY false ZTu Zc2 (λa=>1000000000000)
theorem ZI8:ZaB (envX prog [(48,Zhd),(74,Zkl),(75,Zbi),(76,Zbn),(77,Za1)] [] 2047 8) (.block 0 (.loop (ZX Tryz.f23.body 0))) ZGK:=
 loopP ⟨Zh9,Zll,Zb8,Zca,ZbN,Tv⟩
def ZrR (b:BRDT) (l:List Int):RT (Option (RUNT×Int)):=
 let x1:TC:=(0,(0,0,0,0,0,0,0,(false,false,false,false,false,false,false),0,0),false,false,false,0,false,false,false,false,false,false,false)
 let x2:CORT:=(x1,0,[],(0,0,0,0),0,false)
 let x3:PICT:=(0,false,false,false,false,0,0,false,false,false,false,false,0,0,0,0,0,0,0,false)
 let x4:SYST:=(x2,[],x3,(0,0,0),0,[])
 let x5:List INPT×Int×Int×CORT×List (Int×Int)×PICT×(QT3)×Int×BRDT×SYST×TC×List (Int×Int)×List PINT×List ITMT×List EVTT×List TC×PUnit:=(decX l,iN (Le (decX l)),0,x2,[],x3,(0,0,0),0,b,x4,x1,[],[],[],[],[],())
 let x6:=runF false Zc2 (λa=>1000000000000) x5
 let x7:QT15:=(getO (false,x5) x6).2.2.2.2
 let x8:=x7.1
 let x9:=ZuN x8
 let x10:= !x9
 let x11:=x8.2
 let x12:=x11.2.1
 let x13:=Nat.ble (Le x12) most
 let x14:= !x13
 let x15:=x7.2
 let x16:=x15.2
 let x17:=x16.2
 let x18:=x17.2
 let x19:=x18.2.2.2
 let x20:=x19.2
 let x21:=x20.2
 let x22:=x21.2
 let x23:=x22.2
 let x24:=x23.1
 let x25:LINT×Bool×Bool×Bool×Bool×Int×Int:=((false,false,false,false,false,false,false,false,false),false,false,false,false,0,0)
 let x26:List EVTT:=x24++[(7,x11.1,x12,x25)]
 let x27:=Nat.ble (Le x26) most
 let x28:=x23.2.1
 let x29:List TC:=x28++[x19.1]
 let x30:=x10||(x14||(!x27||Nat.ble (Le x29) most))
 let x31:= !x30
 let x32:=x10||(x14||x27)
 let x33:List INPT×Int×Int×CORT×List (Int×Int)×PICT×(QT3)×Int×BRDT×SYST×TC×List (Int×Int)×List PINT×List ITMT×List EVTT×List TC×PUnit:=(decX l,iN (Le (decX l)),0,newX b.1,b.2.2.2.2.2.2,ZV6,(0,0,0),0,b,x4,(newX b.1).1,[],[],[],[],[],())
 let x34:=runF false Zc2 (λa=>1000000000000) x33
 let x35:QT15:=(getO (false,x33) x34).2.2.2.2
 let x36:=x35.1
 let x37:=ZuN x36
 let x38:= !x37
 let x39:=x36.2
 let x40:=x39.2.1
 let x41:=Nat.ble (Le x40) most
 let x42:= !x41
 let x43:=x35.2
 let x44:=x43.2
 let x45:=x44.2
 let x46:=x45.2
 let x47:=x46.2.2.2
 let x48:=x47.2
 let x49:=x48.2
 let x50:=x49.2
 let x51:=x50.2
 let x52:=x51.1
 let x53:List EVTT:=x52++[(7,x39.1,x40,x25)]
 let x54:=Nat.ble (Le x53) most
 let x55:=x51.2.1
 let x56:List TC:=x55++[x47.1]
 let x57:=x38||(x42||(!x54||Nat.ble (Le x56) most))
 let x58:= !x57
 let x59:=x38||(x42||x54)
 .br (!Zj2 b||(ZiB b !=0||Nat.ble (Le b.2.2.2.2.2.2) most)) (.br (Zj2 b) (.br (ZiB b !=0) (.br (ZiB b !=0) (Ls ((([],[],[],[],x4),ZiB b))) (.br (Zz7 l) (.br (okB x6) (.br (x31||(!x32||(x10||x13))) (.br (x31||x32) (.br (x30) (Ls (((x21.1,x22.1,bif x9 then x26 else x24,bif x9 then x29 else x28,x8,x15.1,x16.1,x17.1,x18.1,x20.1),0))) Ln) Ln) Ln) Ln) Ln)) (.br (Zz7 l) (.br (okB x34) (.br (x58||(!x59||(x38||x41))) (.br (x58||x59) (.br (x57) (Ls (((x49.1,x50.1,bif x37 then x53 else x52,bif x37 then x56 else x55,x36,x43.1,x44.1,x45.1,x46.1,x48.1),0))) Ln) Ln) Ln) Ln) Ln)) Ln) Ln
def ZZK (b:BRDT) (l:List Int):RUNT×Int:=getO ZvB.Df (ZrR b l).val
def ZUP (b:BRDT) (l:List Int):Bool:=okB (ZrR b l).val
def ZZJ:En:=Zi ZDj ZvB (λa=>some (ZUP a.1 a.2)) (λa=>ZZK a.1 a.2)
theorem ZTt:Zb prog 23 ZZJ:=
 pureP 2047 [(48,Zhd),(74,Zkl),(75,Zbi),(76,Zbn),(77,Za1)] [(0,ZGK)] _ _ ⟨Zh9,Zll,Zb8,Zca,ZbN,Tv⟩ Tryz.func23 Tryz.call23 ⟨ZI8,Tv⟩
def qDoE:En:=.tree (Zx (envX prog [(143,ZcU),(202,Zjp)] [] 9223389629049209151 8) Tryz.f158)
theorem ZT0:Zb prog 158 qDoE:=Z5 ⟨Zep,Zrq,Tv⟩ Tryz.func158 rfl (by kernel_rfl) Tryz.call158 trivial
def ZLF:LS:={n:=37,Sl:=[(0,.fix (A.loc 2 0)),(2,.code (So Kc)),(5,.fix (A.loc 3 0)),(7,.fix (A.loc 4 0)),(8,.fix (A.loc 5 0)),(9,.code (So (R.sl Ka))),(10,.tip 1)],Bx:=[[.many Z8],[.many Z8],[.code rcRG,.code rcCE,.code (R.sl Ka),.tip 0],[.many Z8],[.many ZRe],[.many Z8]],Sg:=[⟨R.Pq Ka Ka,194,true⟩,⟨Ka,5,true⟩]}
def Zfj (a:QT12):RT (Option (Go1 (QT12))):=
 let x1:=Zh a.2.2.2.2.2.2.2.1 a.1 a.2.2.2.2.2.2.2.2.2.2.2.1
 let x2:= !x1.2
 let x3:=x1.1
 let x4:=x3.1
 let x5:=x4==1
 let x6:=x4==2
 let x7:=bif x5 then x5 else bif x6 then x6 else x4==4
 let x8:= !x7
 let x9:=smG a.2.2.2.2.1&&smC a.2.2.2.2.2.1
 let x10:=x8||x9
 let x11:= !x10
 let x12:=x4==3
 let x13:=bif x12 then x12 else x4==5
 let x14:= !x13
 let x15:=x7||(x14||x9)
 let x16:= !x15
 let x17:=x4==7
 let x18:= !x17
 let x19:=x3.2
 let x20:=x19.1
 let x21:=x19.2.1
 let x22:List (Int×Int):=a.2.2.2.2.2.2.2.2.2.2.1++[(u8.wrap x20,x21)]
 let x23:=x7||(x13||(x18||Nat.ble (Le x22) most))
 let x24:= !x23
 let x25:=x4==6
 let x26:=x4==8
 let x27:=bif x25 then x25 else bif x26 then x26 else x4==9
 let x28:= !x27
 let x29:=x11||(x16||(x24||(x7||(x13||(x17||(x28||(iN (Le a.2.2.2.2.2.2.1)==0||(!Zf 0 (Le a.2.2.2.2.2.2.1)||decide (0<=1)&&decide (1<=iN (Le a.2.2.2.2.2.2.1))&&(decide (iN (Le a.2.2.2.2.2.2.1)=0)||decide (iN (Le a.2.2.2.2.2.2.1)<=iN (Le a.2.2.2.2.2.2.1)))))))))))
 let x30:= !x29
 let x31:=x11||(x16||(x24||(x7||(x13||(x17||(x28||(iN (Le a.2.2.2.2.2.2.1)==0||Zf 0 (Le a.2.2.2.2.2.2.1))))))))
 let x32:= !x31
 let x33:=x11||(x16||x23)
 let x34:= !x33
 let x35:=x11||x15
 let x36:= !x35
 let x37:List Int:=a.2.2.2.2.2.2.2.2.2.2.2.1++[Zge a.2.2.2.2.1 a.2.2.2.2.2.1 x20]
 let x38:=x30||(x32||(x34||(x36||(x11||(x8||Nat.ble (Le x37) most)))))
 let x39:= !x38
 let x40:List Int:=a.2.2.2.2.2.2.2.2.2.2.2.1++[x21]
 let x41:=Nat.ble (Le x40) most
 let x42:=x30||(x32||(x34||(x36||(x11||(x7||(x14||x41))))))
 let x43:= !x42
 let x44:=x30||(x32||(x34||(x36||(x11||(x7||(x13||(x18||x41)))))))
 let x45:= !x44
 let x46:List Int:=a.2.2.2.2.2.2.2.2.2.2.2.1++[0]
 let x47:=Nat.ble (Le x46) most
 let x48:=x30||(x32||(x34||(x36||(x11||(x7||(x13||(x17||(x28||(!iN (Le a.2.2.2.2.2.2.1)==0||x47)))))))))
 let x49:= !x48
 let x50:List Int:=a.2.2.2.2.2.2.2.2.2.2.2.1++[R.get Ka a.2.2.2.2.2.2.1 0]
 let x51:=x30||(x32||(x34||(x36||(x11||(x7||(x13||(x17||(x28||(iN (Le a.2.2.2.2.2.2.1)==0||Nat.ble (Le x50) most)))))))))
 let x52:= !x51
 let x53:=x30||(x32||(x34||(x36||(x11||(x7||(x13||(x17||(x27||x47))))))))
 let x54:= !x53
 let x55:=x30||(x32||(x34||(x36||x10)))
 let x56:= !x55
 let x57:=x30||(x32||(x34||x35))
 let x58:= !x57
 let x59:=x30||(x32||x33)
 let x60:= !x59
 let x61:=x30||x31
 .br (x2||(x39||(x43||(x45||(x49||(x52||(x54||(x56||(x58||(x60||(!x61||x29))))))))))) (.br (x2||(x39||(x43||(x45||(x49||(x52||(x54||(x56||(x58||(x60||x61)))))))))) (.br (x2||(x39||(x43||(x45||(x49||(x52||(x54||(x56||(x58||x59))))))))) (.br (x2||(x39||(x43||(x45||(x49||(x52||(x54||(x56||x57)))))))) (.br (x2||(x39||(x43||(x45||(x49||(x52||(x54||x55))))))) (.br (x2||(x39||(x43||(x45||(x49||(x52||x53)))))) (.br (x2||(x39||(x43||(x45||(x49||x51))))) (.br (x2||(x39||(x43||(x45||x48)))) (.br (x2||(x39||(x43||x44))) (.br (x2||(x39||x42)) (.br (x2||x38) (.br (x2) (Ls (Go1.ret (a.1,a.2.2.2.2.2.2.2.2.2.2.2.1,a.2.2.1,a.2.2.2.1,a.2.2.2.2.1,a.2.2.2.2.2.1,a.2.2.2.2.2.2.1,a.2.2.2.2.2.2.2.1,a.2.2.2.2.2.2.2.2.1,finX a.2.2.2.2.2.2.2.1 a.1 a.2.2.2.2.2.2.2.2.2.2.2.1 a.2.2.2.2.2.2.2.2.1,a.2.2.2.2.2.2.2.2.2.2.1,a.2.2.2.2.2.2.2.2.2.2.2.1,PUnit.unit))) (Ls (Go1.cont (a.1,a.2.1,a.2.2.1,a.2.2.2.1,a.2.2.2.2.1,bif x7 then a.2.2.2.2.2.1 else bif x13 then ZaL a.2.2.2.2.1 a.2.2.2.2.2.1 x20 x21 else a.2.2.2.2.2.1,bif x7 then a.2.2.2.2.2.2.1 else bif x13 then a.2.2.2.2.2.2.1 else bif x17 then a.2.2.2.2.2.2.1 else bif x27 then bif iN (Le a.2.2.2.2.2.2.1)==0 then a.2.2.2.2.2.2.1 else subL a.2.2.2.2.2.2.1 1 (iN (Le a.2.2.2.2.2.2.1)) else a.2.2.2.2.2.2.1,a.2.2.2.2.2.2.2.1,a.2.2.2.2.2.2.2.2.1,a.2.2.2.2.2.2.2.2.2.1,bif x7 then a.2.2.2.2.2.2.2.2.2.2.1 else bif x13 then a.2.2.2.2.2.2.2.2.2.2.1 else bif x17 then x22 else a.2.2.2.2.2.2.2.2.2.2.1,bif x7 then x37 else bif x13 then x40 else bif x17 then x40 else bif x27 then bif iN (Le a.2.2.2.2.2.2.1)==0 then x46 else x50 else x46,PUnit.unit)))) Ln) Ln) Ln) Ln) Ln) Ln) Ln) Ln) Ln) Ln) Ln
def Znu:Ora:=ZaY true ZLF Zfj (λa=>100)
theorem ZAs:ZaB (envX prog [(81,ZdA),(82,Zh3),(85,ZCf),(158,qDoE)] [] 8191 8) (.block 0 (.loop (ZX Tryz.f89.body 0))) Znu:=
 loopP ⟨Zdi,ZfR,Zt6,ZT0,Tv⟩
def ZAt:En:=.tree (Zx (envX prog [(81,ZdA),(82,Zh3),(85,ZCf),(158,qDoE)] [(0,Znu)] 8191 8) Tryz.f89)
theorem Zxt:Zb prog 89 ZAt:=Z5 (P:=prog) (n:=8191) (k:=8) (l:=[(81,ZdA),(82,Zh3),(85,ZCf),(158,qDoE)]) (ol:=[(0,Znu)]) ⟨Zdi,ZfR,Zt6,ZT0,Tv⟩ Tryz.func89 rfl (by kernel_rfl) Tryz.call89 ⟨ZAs,Tv⟩
def ZfX:En:=.tree (Zx (envX prog [(90,Zpo)] [] 7 8) Tryz.f88)
theorem ZgZ:Zb prog 88 ZfX:=Z5 ⟨Zpn,Tv⟩ Tryz.func88 rfl (by kernel_rfl) Tryz.call88 trivial
abbrev ZPa:List Sh:=[Sh.agg Z8,So rcRG,So rcCE,So (R.sl Ka),So Kc]
abbrev ZGi:Rs:=Rs.tup [Sh.agg Z8,So rcCE,So (R.sl (R.Pq Ka Ka)),So Kc]
def ZXv:LS:={n:=49,Sl:=[(4,.code (So Kc)),(5,.fix (A.loc 0 0)),(10,.fix (A.loc 1 0)),(13,.code (So Kc)),(14,.fix (A.loc 2 0))],Bx:=[[.many Z8],[.many Z8],[.code rcRG,.code rcCE,.code (R.sl Ka),.tip 0]],Sg:=[⟨R.Pq Ka Ka,194,true⟩]}
def ZkY (a:QT13):RT (Option (Go1 (QT13))):=
 let x1:QT12:=(0,[],a.2.2.1,a.2.2.2.1,a.2.2.2.2.1,a.2.2.2.2.2.1,a.2.2.2.2.2.2.1,Zj a.2.2.1 0,(false,false,false,false,false,false,false,false,false),(0,(0,0,0,0,0,0,0,(false,false,false,false,false,false,false),0,0),false,false,false,0,false,false,false,false,false,false,false),a.2.2.2.2.2.2.2.1,[],())
 let x2:=runF true Zfj (λa_1=>100) x1
 let x3:=getO (false,x1) x2
 let x4:=x3.1
 let x5:=x3.2.2.2.2
 let x6:=x5.2
 let x7:=x6.2
 let x8:=x7.2
 let x9:=x8.2.2.2
 let x10:=x9.1
 let x11:=x10.1
 let x12:=x10.2
 let x13:=x12.1
 let x14:=x13.1
 let x15:=x13.2
 let x16:=x15.1
 let x17:=x15.2
 let x18:=x17.1
 let x19:=x17.2
 let x20:=x19.1
 let x21:=x19.2
 let x22:=x21.1
 let x23:=x21.2
 let x24:=x23.1
 let x25:=x23.2
 let x26:=x25.1
 let x27:=x25.2
 let x28:=x27.1
 let x29:=x28.1
 let x30:=x28.2
 let x31:=x30.1
 let x32:=x30.2
 let x33:=x32.1
 let x34:=x32.2
 let x35:=x34.1
 let x36:=x34.2
 let x37:=x36.1
 let x38:=x36.2
 let x39:=x38.1
 let x40:=x38.2
 let x41:=x27.2
 let x42:=x41.1
 let x43:=x41.2
 let x44:=x12.2
 let x45:=x44.1
 let x46:=x44.2
 let x47:=x46.1
 let x48:=x46.2
 let x49:=x48.1
 let x50:=x48.2
 let x51:=x50.1
 let x52:=x50.2
 let x53:=x52.1
 let x54:=x52.2
 let x55:=x54.1
 let x56:=x54.2
 let x57:=x56.1
 let x58:=x56.2
 let x59:=x58.1
 let x60:=x58.2
 let x61:=x60.1
 let x62:=x60.2
 let x63:=x62.1
 let x64:=x62.2
 let x65:=x5.1
 let x66:=x65.1
 let x67:=x65.2
 let x68:=x67.1
 let x69:=x68.1
 let x70:=x68.2
 let x71:=x70.1
 let x72:=x70.2
 let x73:=x72.1
 let x74:=x72.2
 let x75:=x74.1
 let x76:=x74.2
 let x77:=x76.1
 let x78:=x76.2
 let x79:=x78.1
 let x80:=x78.2
 let x81:=x80.1
 let x82:=x80.2
 let x83:=x82.1
 let x84:=x83.1
 let x85:=x83.2
 let x86:=x85.1
 let x87:=x85.2
 let x88:=x87.1
 let x89:=x87.2
 let x90:=x89.1
 let x91:=x89.2
 let x92:=x91.1
 let x93:=x91.2
 let x94:=x93.1
 let x95:=x93.2
 let x96:=x82.2
 let x97:=x96.1
 let x98:=x96.2
 let x99:=x67.2
 let x100:=x99.1
 let x101:=x99.2
 let x102:=x101.1
 let x103:=x101.2
 let x104:=x103.1
 let x105:=x103.2
 let x106:=x105.1
 let x107:=x105.2
 let x108:=x107.1
 let x109:=x107.2
 let x110:=x109.1
 let x111:=x109.2
 let x112:=x111.1
 let x113:=x111.2
 let x114:=x113.1
 let x115:=x113.2
 let x116:=x115.1
 let x117:=x115.2
 let x118:=x117.1
 let x119:=x117.2
 let x120:=x6.1
 let x121:=x7.1
 let x122:=x8.1
 let x123:=x9.2.1
 .br (decide (a.2.1<if 10000<a.1 then 10000 else a.1)&& !a.2.2.1.2.2.2.2.1) (.br (okB x2) (Ls (Go1.cont (a.1,i64.wrap (a.2.1+1),(bif x4 then x11 else x11,(bif x4 then x14 else x14,bif x4 then x16 else x16,bif x4 then x18 else x18,bif x4 then x20 else x20,bif x4 then x22 else x22,bif x4 then x24 else x24,bif x4 then x26 else x26,(bif x4 then x29 else x29,bif x4 then x31 else x31,bif x4 then x33 else x33,bif x4 then x35 else x35,bif x4 then x37 else x37,bif x4 then x39 else x39,bif x4 then x40 else x40),bif x4 then x42 else x42,bif x4 then x43 else x43),bif x4 then x45 else x45,bif x4 then x47 else x47,bif x4 then x49 else x49,bif x4 then x51 else x51,bif x4 then x53 else x53,bif x4 then x55 else x55,bif x4 then x57 else x57,bif x4 then x59 else x59,bif x4 then x61 else x61,bif x4 then x63 else x63,bif x4 then x64 else x64),(bif x4 then x66 else x66,(bif x4 then x69 else x69,bif x4 then x71 else x71,bif x4 then x73 else x73,bif x4 then x75 else x75,bif x4 then x77 else x77,bif x4 then x79 else x79,bif x4 then x81 else x81,(bif x4 then x84 else x84,bif x4 then x86 else x86,bif x4 then x88 else x88,bif x4 then x90 else x90,bif x4 then x92 else x92,bif x4 then x94 else x94,bif x4 then x95 else x95),bif x4 then x97 else x97,bif x4 then x98 else x98),bif x4 then x100 else x100,bif x4 then x102 else x102,bif x4 then x104 else x104,bif x4 then x106 else x106,bif x4 then x108 else x108,bif x4 then x110 else x110,bif x4 then x112 else x112,bif x4 then x114 else x114,bif x4 then x116 else x116,bif x4 then x118 else x118,bif x4 then x119 else x119),bif x4 then x120 else x120,bif x4 then x121 else x121,bif x4 then x122 else x122,bif x4 then x123 else x123,PUnit.unit))) Ln) (Ls (Go1.brk (a.1,a.2.1,a.2.2.1,a.2.2.2.1,a.2.2.2.2.1,a.2.2.2.2.2.1,a.2.2.2.2.2.2.1,a.2.2.2.2.2.2.2.1,PUnit.unit)))
def ZPd:Ora:=ZaY false ZXv ZkY (λa=>20000)
theorem ZPc:ZaB (envX prog [(88,ZfX),(89,ZAt)] [] 32767 8) (.block 0 (.loop (ZX Tryz.f32.body 0))) ZPd:=
 loopP ⟨ZgZ,Zxt,Tv⟩
def ZPb (c:TC) (rg:List (QT4)) (m:List (Int×Int)) (ins:List Int) (k:Int):RT (Option (QT35)):=
 let x1:QT13:=(k,0,c,(0,(0,0,0,0,0,0,0,(false,false,false,false,false,false,false),0,0),false,false,false,0,false,false,false,false,false,false,false),rg,Cells.normX m,ins,[],())
 let x2:=runF false ZkY (λa=>20000) x1
 let x3:Int×TC×TC×List (Int×Int×Bool×Int)×List (Int×Int)×List Int×List (Int×Int)×PUnit:=(getO (false,x1) x2).2.2
 let x4:=x3.2
 let x5:=x4.2.2.2
 .br (smC m) (.br (okB x2) (Ls ((x4.1,x5.1,x5.2.2.1,x3.1))) Ln) Ln
def iRun (c:TC) (rg:List (QT4)) (m:List (Int×Int)) (ins:List Int) (k:Int):QT35:=getO ZGi.Df (ZPb c rg m ins k).val
def ZXw (c:TC) (rg:List (QT4)) (m:List (Int×Int)) (ins:List Int) (k:Int):Bool:=okB (ZPb c rg m ins k).val
def iRunE:En:=Zi ZPa ZGi (λa=>some (ZXw a.1 a.2.1 a.2.2.1 a.2.2.2.1 a.2.2.2.2)) (λa=>iRun a.1 a.2.1 a.2.2.1 a.2.2.2.1 a.2.2.2.2)
theorem ZXu:Zb prog 32 iRunE:=
 pureP 32767 [(88,ZfX),(89,ZAt)] [(0,ZPd)] _ _ ⟨ZgZ,Zxt,Tv⟩ Tryz.func32 Tryz.call32 ⟨ZPc,Tv⟩
theorem cor (a b:Bool):(bif a then a else b)=(a||b):=by cases a<;>rfl
theorem ZZr (l:List Int):(iN l.length==0||Zf 0 l.length)=true:=by
 cases l with
 |nil=>rfl
 |cons x l=>simp[iN,Le,Zf]
theorem ZXl (l:List Int):(iN l.length==0||(!Zf 0 l.length||decide (0<=1)&&decide (1<=iN l.length)&&(decide (iN l.length=0)||decide (iN l.length<=iN l.length))))=true:=by
 cases l with
 |nil=>rfl
 |cons x l=>simp[iN,Le,Zf];omega
theorem ZXm (l g:List Int):(bif iN l.length==0 then g++[0] else g++[R.get (R.int .u8) l 0])=g++[l.getD 0 0]:=by
 cases l with
 |nil=>rfl
 |cons x l=>
  have:(iN (x::l).length==0)=false:=by simp[iN,Le];omega
  rw[this];rfl
theorem ZZq (l:List Int):(bif iN l.length==0 then l else subL l 1 (iN l.length))=l.drop 1:=by
 cases l with
 |nil=>rfl
 |cons x l=>
  have:(iN (x::l).length==0)=false:=by simp[iN,Le];omega
  rw[this];simp[subL,iN,Le]
theorem Zmr (c:CpuT) (s:Int) (n:Nat) (g:List Int) (m:MacT):goX c s (n+1) g m=bif (Zh c s g).2 then goX c s n (g++[(doX (Zh c s g).1 m).1]) (doX (Zh c s g).1 m).2 else (g,m):=rfl
structure Rm (rg:List ZG) (m:List Cell) (outs:List (Int×Int)) (g:List Int):Prop where
 r:smG rg=true
 m:smC m=true
 o:∀x,Nat.ble (outs++[x]).length most=true
 g:∀x,Nat.ble (g++[x]).length most=true
theorem ZXx (s g0 c0 cz rg m ins c l cz2 outs g) (h:Rm rg m outs g):
  (Zfj (s,g0,c0,cz,rg,m,ins,c,l,cz2,outs,g,())).val=some (bif (Zh c s g).2 then
   Go1.cont (s,g0,c0,cz,rg,(doX (Zh c s g).1 (rg,m,ins,outs)).2.2.1,(doX (Zh c s g).1 (rg,m,ins,outs)).2.2.2.1,c,l,cz2,(doX (Zh c s g).1 (rg,m,ins,outs)).2.2.2.2,g++[(doX (Zh c s g).1 (rg,m,ins,outs)).1],())
   else Go1.ret (s,g,c0,cz,rg,m,ins,c,l,finX c s g l,outs,g,())):=by
 have i1:=ZZr ins;have i2:=ZXl ins;have i3:=ZXm ins g;have i4:=ZZq ins;simp only[Zfj,RT.val,cor,h.r,h.m,h.o,h.g,i1,i2,Yi,Yv,Yf,Yj,Yy,Y0,Ya];cases (Zh c s g).2
 ·rfl
 ·simp only[Yf,Yb,Ya,i3,i4];unfold doX;generalize (Zh c s g).1=x;cases x.1==1||(x.1==2||x.1==4)
  ·cases x.1==3||x.1==5
   ·cases x.1==7
    ·cases x.1==6||(x.1==8||x.1==9)<;>rfl
    ·rfl
   ·rfl
  ·rfl
def ZpL (a:Int×List Int×CpuT×CpuT×List ZG×List Cell×List Int×CpuT×LnT×CpuT×List (Int×Int)×List Int×PUnit):List Int:=a.2.2.2.2.2.2.2.2.2.2.2.1
theorem ZZv (A:List Int×CpuT×CpuT×CpuT) (c:CpuT) (s:Int) (l:LnT) (M0:MacT) (hr:smG M0.1=true) (hm:M0.2.1.length+20<=most) (ho:M0.2.2.2.length+20<=most):
  ∃r,runF true Zfj (λ_=>100) (s,A.1,A.2.1,A.2.2.1,M0.1,M0.2.1,M0.2.2.1,c,l,A.2.2.2,M0.2.2.2,[],())=some r/\r=(true,s,(goX c s 6 [] M0).1,A.2.1,A.2.2.1,M0.1,(goX c s 6 [] M0).2.2.1,(goX c s 6 [] M0).2.2.2.1,c,l,finX c s (goX c s 6 [] M0).1 l,(goX c s 6 [] M0).2.2.2.2,(goX c s 6 [] M0).1,()):=by
 have hms:=mst;obtain⟨r,h1,h2⟩:=ZA (fl:=true) (t:=Zfj) (fuel:=λ_=>100)
  (λa=>∃(g:List Int) (M:MacT),a=(s,A.1,A.2.1,A.2.2.1,M0.1,M.2.1,M.2.2.1,c,l,A.2.2.2,M.2.2.2,g,())/\M.1=M0.1/\g.length<=5/\goX c s (6-g.length) g M=goX c s 6 [] M0/\M.2.1.length<=M0.2.1.length+g.length/\M.2.2.2.length<=M0.2.2.2.length+g.length)
  (λa=>6-(ZpL a).length) (λr=>r=(true,s,(goX c s 6 [] M0).1,A.2.1,A.2.2.1,M0.1,(goX c s 6 [] M0).2.2.1,(goX c s 6 [] M0).2.2.2.1,c,l,finX c s (goX c s 6 [] M0).1 l,(goX c s 6 [] M0).2.2.2.2,(goX c s 6 [] M0).1,()))
  (by
   rintro a ⟨g,M,rfl,hM,hg,hR,hl,hq⟩;have rm:Rm M0.1 M.2.1 M.2.2.2 g:=⟨hr,by rw[show smC M.2.1=sm M.2.1 from rfl,Zm5];omega,λx=>by rw[YG];simp;omega,λx=>by rw[YG];simp;omega⟩;have hs:=ZXx s A.1 A.2.1 A.2.2.1 M0.1 M.2.1 M.2.2.1 c l A.2.2.2 M.2.2.2 g rm;have e6:6-g.length=(5-g.length)+1:=by omega
   rw[e6] at hR;have hMe:M=(M0.1,M.2.1,M.2.2.1,M.2.2.2):=by rw[<-hM]
   cases hn:(Zh c s g).2
   ·right;right;rw[hn,Yb] at hs;refine⟨_,rfl,hs,?_⟩;rw[Zmr c s (5-g.length) g M,hn,Yb] at hR;rw[<-hR]
   ·left;rw[hn,Ya,<-hMe] at hs;have h5:g.length<5:=by
     refine Nat.lt_of_not_le λh=> ?_
     rw[ZFO c s g h] at hn;simp at hn
    have hd:=ZUF (Zh c s g).1 M;rw[Zmr c s (5-g.length) g M,hn,Ya] at hR;refine⟨_,hs,⟨g++[(doX (Zh c s g).1 M).1],(doX (Zh c s g).1 M).2,rfl,hd.1.trans hM,by simp;omega,?_,?_,?_⟩,?_⟩
    ·rw[show 6-(g++[(doX (Zh c s g).1 M).1]).length=5-g.length by simp only[Yd,List.length_singleton];omega];exact hR
    ·have:=hd.2.2.1;simp;omega
    ·have:=hd.2.2.2.2;simp;omega
    ·simp[ZpL];omega)
  (s,A.1,A.2.1,A.2.2.1,M0.1,M0.2.1,M0.2.2.1,c,l,A.2.2.2,M0.2.2.2,[],()) ⟨[],M0,rfl,rfl,by simp,rfl,by simp,by simp⟩ (by simp[ZpL])
 exact⟨r,h1,h2⟩
