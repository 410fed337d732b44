import Derived.Test.YtpnjbfjomebppaaGreatS3Okr
import Derived.Test.YtpnjbfjomebppaaGreatLawE
open Go Go.S3 Go.Proofs Go.Proofs.Cells
set_option linter.unusedVariables false
set_option linter.unusedSimpArgs false
set_option maxRecDepth 100000
namespace Go.Proofs.YtpnjbfjomebppaaGreat
noncomputable section
open Classical in
def runW (b:BRDT) (l:List INPT):RUNT×Int:=if ∀y∈(ZbL b l).1.2.1,inR .u16 y.2.1.2.1 then ZbL b l else (([],[],[],[],ZvB),0)
def ZC3:En:=Zi Zvv ZpY (λa=>some (Zik a.1 a.2)) (λa=>runW a.1 (decX a.2))
theorem Zzb:Zb Tryz.prog 23 ZC3:=Zhk.pure_pick (by decide) (λa h hp ho=>by
 have:∀y∈(ZbL a.1 (decX a.2)).1.2.1,inR .u16 y.2.1.2.1:=λy hy=>(ho.1.2.1.2 y hy).2.1.2.1
 show ZbL a.1 (decX a.2)=runW a.1 (decX a.2);unfold runW
 rw[YY this])
end
end Go.Proofs.YtpnjbfjomebppaaGreat
open Go.Proofs.Tryz (prog)
open Go.IntKind (u8 u16 i64)
open Go Go.S3 Go.Proofs
namespace Go.Proofs.YtpnjbfjomebppaaGreat
noncomputable section
abbrev Zdh:R:=R.Pq R.bool (R.Pq R.bool (R.Pq R.bool (R.Pq R.bool (R.Pq R.bool (R.Pq R.bool (R.Pq R.bool (R.Pq R.bool (R.Pq Ka Ka))))))))
abbrev Zdi:Nat:=122
def ZR0:LS:={n:=15,Sl:=[(0,.code (So Kc)),(3,.tip 0),(4,.code (So Kc))],Bx:=[],Sg:=[⟨ZeM,122,false⟩]}
def Zu4 (a:Int×Int×List INPT×PUnit):RT (Option (Go1 (Int×Int×List INPT×PUnit))):=
 .br (decide (a.2.1<a.1)) (.br (Nat.ble (Le (a.2.2.1++[Zl])) most) (Ls (Go1.cont (a.1,i64.wrap (a.2.1+1),a.2.2.1++[Zl],PUnit.unit))) Ln) (Ls (Go1.brk (a.1,a.2.1,a.2.2.1,PUnit.unit)))
def ZFP:Ora:=Zbi false ZR0 Zu4 (λa=>1000000000000)
theorem ZIv:ZaM (envX prog [(118,ZDb)] [] 31 8) (.block 0 (.loop (Z5 Tryz.f57.body 0))) ZFP:=
 loopP ⟨ZrQ,Tv⟩
def ZyH (n:Int):RT (Option (List INPT)):=
 .br (okB (runF false Zu4 (λa=>1000000000000) (n,0,[],()))) (Ls (getO (false,n,0,[],()) (runF false Zu4 (λa=>1000000000000) (n,0,[],()))).2.2.2.1) Ln
def ZhU (n:Int):List INPT:=getO [] (ZyH n).val
def Zgl (n:Int):Bool:=okB (ZyH n).val
def Zrv:En:=frzE (newE Zdh Zdi ZxE (λa=>some (Zgl a)) (λa=>ZhU a))
theorem ZOm:Zb prog 57 (newE Zdh Zdi ZxE (λa=>some (Zgl a)) (λa=>ZhU a)):=
 Zjx (P:=prog) (n:=31) (k:=8) (l:=[(118,ZDb)]) (ol:=[(0,ZFP)]) ⟨ZrQ,Tv⟩ Tryz.func57 rfl (by kernel_rfl) Tryz.call57 ⟨ZIv,Tv⟩ (r:=Zdh) (T:=Zdi) (ts:=ZxE) (t:=λa=>ZyH a) (λa=>by kernel_rfl)
theorem ZjP:Zb prog 57 Zrv:=Zrz ZOm
def ZRT:LS:={n:=82,Sl:=[(4,.code (So R.bool)),(7,.code (So Kc)),(8,.fix (A.loc 1 0)),(40,.code (So (R.sl ZhT))),(41,.code (So Kc)),(42,.code (So Kc))],Bx:=[[.many (R.Pq Kc (R.Pq rcRG (R.Pq Kc (R.Pq Ka (R.Pq Ka (R.Pq R.bool rcCE))))))],[.many (R.Pq (R.sl Zgo) (R.Pq (R.sl ZhT) (R.Pq (R.sl Zei) (R.Pq (R.sl Z8) (R.Pq (R.Pq Z8 (R.Pq Kc (R.Pq (R.sl Ka) (R.Pq (RY) (R.Pq Kc R.bool))))) (R.Pq rcCE (R.Pq Zb3 (R.Pq (R.Pq Kb (R.Pq Ka Kc)) (R.Pq Kc (R.sl (R.Pq Ka Ka)))))))))))]],Sg:=[⟨R.Pq R.bool (R.Pq R.bool (R.Pq R.bool (R.Pq R.bool (R.Pq R.bool (R.Pq R.bool (R.Pq R.bool (R.Pq R.bool (R.Pq Ka Ka)))))))),122,true⟩]}
def ZfX (a:QT22):RT (Option (Go1 (QT22))):=
 let x1:ITMT:=R.get ZhT a.2.2.1 a.2.2.2.2.1
 let x2:BRDT×RUNT×List INPT×PUnit:=(a.2.2.2.2.2.1,a.2.2.2.2.2.2.1,a.2.2.2.2.2.2.2.1,PUnit.unit)
 let x3:=x1.2
 let x4:=x3.1.1
 let x5:Int×List ITMT×Int×Int×BRDT×RUNT×List INPT×PUnit:=(a.2.1,a.2.2.1,a.2.2.2.1,a.2.2.2.2.1,x2)
 .br (decide (a.2.2.2.2.1<a.2.2.2.1)) (.br (Zg a.2.2.2.2.1 (Le a.2.2.1)) (.br (x1.1 !=1||a.2.2.2.2.1==i64.wrap (iN (Le a.2.2.2.2.2.2.1.2.1)-1)) (Ls (Go1.cont (a.1,a.2.1,a.2.2.1,a.2.2.2.1,i64.wrap (a.2.2.2.2.1+1),x2))) (.br (x3.2.1 !=bif !Zh x4||(x4==8||x4==9) then 0 else a.2.1) (Ls (Go1.ret (false,x5))) (Ls (Go1.cont (a.1,a.2.1,a.2.2.1,a.2.2.2.1,i64.wrap (a.2.2.2.2.1+1),x2))))) Ln) (Ls (Go1.brk (a.1,x5)))
def ZFI:Ora:=Zbi true ZRT ZfX (λa=>1000000000000)
theorem ZIs:ZaM (envX prog [(23,ZC3),(45,ZCy),(46,Ziy),(47,Zpe),(56,ZfD),(57,Zrv),(58,Znj)] [] 8191 8) (.block 0 (.loop (Z5 Tryz.f10.body 0))) ZFI:=
 loopP ⟨Zzb,ZkP,Zfv,ZjG,Zd2,ZjP,Znh,Tv⟩
def Zrs (n:List Int) (w:Int):RT (Option (Bool)):=
 let x1:BRDT:=((ZC n 0).1.1,[(0,65535,true,Zg5 w 6)],Zg5 w 6,(ZC n 0).1.2.2.2)
 let x2:=runW x1 (decX (ZcH (Stg.l (newG Zdh Zdi (ZhU 80)))))
 let x3:=x2.1
 let x4:=x3.2.1
 let x5:QT22:=(false,Zg5 w 6,x4,iN (Le x4),0,x1,x3,Stg.l (newG Zdh Zdi (ZhU 80)),())
 let x6:=runF true ZfX (λa=>1000000000000) x5
 let x7:=getO (false,x5) x6
 .br (!decide (iN (Le n)>250)||ZyE) (.br (decide (iN (Le n)>250)) (Ls (true)) (.br (Ze6 n 0) (.br (ZkM w 6) (.br (!Zgl 80||(!ZcE (Stg.l (newG Zdh Zdi (ZhU 80)))||Zik x1 (ZcH (Stg.l (newG Zdh Zdi (ZhU 80)))))) (.br (!Zgl 80||ZcE (Stg.l (newG Zdh Zdi (ZhU 80)))) (.br (Zgl 80) (.br (x2.2 !=0) (Ls (false)) (.br (okB x6) (.br x7.1 (Ls x7.2.1) (.br (ZyE) (Ls (true)) Ln)) Ln)) Ln) Ln) Ln) Ln) Ln)) Ln
def ZRU (n:List Int) (w:Int):Bool:=getO ZnX.Df (Zrs n w).val
def ZOc (n:List Int) (w:Int):Bool:=okB (Zrs n w).val
def ZYu:En:=Zi ZFO ZnX (λa=>some (ZOc a.1 a.2)) (λa=>ZRU a.1 a.2)
theorem lBWai_ok:Zb prog 10 ZYu:=
 pureP 8191 [(23,ZC3),(45,ZCy),(46,Ziy),(47,Zpe),(56,ZfD),(57,Zrv),(58,Znj)] [(0,ZFI)] _ _ ⟨Zzb,ZkP,Zfv,ZjG,Zd2,ZjP,Znh,Tv⟩ Tryz.func10 Tryz.call10 ⟨ZIs,Tv⟩
def stC (w:Nat):Nat->List Int
 |0=>[]
 |1=>[1]
 |2=>[1,2]++List.replicate w 7
 |n+1=>stC w n++[((n+1:Nat):Int)]
def stI (y:ITMT):List Int:=
 bif y.1==1 then stC y.2.2.1.toNat y.2.2.2.1.toNat else List.replicate y.2.2.2.1.toNat (bif y.1==2 then 8 else bif y.1==3 then 9 else 10)
def pinI (k:Int) (y:ITMT) (t:Int):PINT:=Zbd k t y.2.1 y.2.1.2.2.1 y.2.2.2.2.1 y.2.2.2.2.2
def expX (k:Int) (l:List ITMT):List PINT:=l.flatMap λy=>(stI y).map (pinI k y)
theorem ZhL (k:Int) (l:List ITMT) (y:ITMT):expX k (l++[y])=expX k l++(stI y).map (pinI k y):=by unfold expX;rw[List.flatMap_append];simp
theorem ZQP (k t:Int) (p:TC) (x:TY) (d D D':Int) (i o:Bool) (h:(t==3)=false):Zbd k t (Zax p x d) D i o=Zbd k t x D' i o:=by
 have e1:(Zax p x d).1=x.1:=rfl;have e2:(Zax p x d).2.1=x.2.1:=rfl;have e3:Za5 x.1=true->(Zax p x d).2.2.1=x.2.2.1:=λhw=>by
  have:Zaz x.1=false:=by
   rw[ZPJ] at hw;by_cases h3:x.1=3
   ·rw[h3];rfl
   by_cases h5:x.1=5
   ·rw[h5];rfl
   by_cases h7:x.1=7
   ·rw[h7];rfl
   have b3:(x.1==3)=false:=by simpa using h3
   have b5:(x.1==5)=false:=by simpa using h5
   have b7:(x.1==7)=false:=by simpa using h7
   rw[b3,b5,b7] at hw;simp at hw
  show (bif Zaz x.1 then d else x.2.2.1)=x.2.2.1;rw[this];rfl
 unfold Zbd Zi7;simp only[RT.val,e1,e2,h,YX,Yb];cases hw:(t==2||(t==7||false))&&Za5 x.1
 ·simp only[Yb]
 ·rw[e3 (by simp at hw;exact hw.2)]
theorem pin_3 (k:Int) (p:TC) (x:TY) (d:Int) (i o:Bool):Zbd k 3 (Zax p x d) (Zax p x d).2.2.1 i o=Zbd k 3 x d i o:=by
 have e1:(Zax p x d).1=x.1:=rfl;have e2:(Zax p x d).2.1=x.2.1:=rfl;have e3:(Zax p x d).2.2.1=bif Zaz x.1 then d else x.2.2.1:=rfl
 unfold Zbd Zi7;simp only[RT.val,e1,e2,e3];cases Zaz x.1<;>rfl
theorem ZSn (c:TC) (s:Int) (g:List Int) (l:LINT):(finX c s g l).1=c.1:=by
 unfold finX;cases Zd s
 ·simp only[Yb];unfold finI;dsimp only;cases (Zc c.1 (g.getD 0 0)).1==38
  ·simp only[Yb];cases (Zc c.1 (g.getD 0 0)).1==39<;>rfl
  ·simp only[Ya];rw[ZS5]
 ·rfl
def okS (x:TY):Bool:=decide (3<=x.2.2.2)&&decide (x.2.2.2<=6)
variable {b:Bool} {x y:List TY}
theorem okl (hx:x.all okS=true) (hy:y.all okS=true):(bif b then x else y).all okS=true:=by cases b<;>assumption
theorem okS_c:(bif b then x else y).all okS=bif b then x.all okS else y.all okS:=by cases b<;>rfl
theorem ZW3 (c:TC) (inj:Bool) (g:List Int) (i:InsT):(Zgf c inj g i).all okS=true:=by
 have h1:∀k,okS (opC c inj k)=true:=λk=>by unfold opC;cases inj<;>rfl
 have hw:∀a,(ZdG c a).all okS=true:=λa=>rfl
 have hr:∀a,(Zim a).all okS=true:=λa=>rfl
 have hp:∀w,(ZcJ c w).all okS=true:=λw=>rfl
 have ho:(popX c).all okS=true:=rfl;have ht:(ZbT c inj i).all okS=true:=by unfold ZbT;exact okl (by simp[h1]) (by simp[h1])
 have h32:okS (5,spOf c,c.2.1.2.2.2.2.2.2.1,bif c.1==2 then 3 else 5)=true:=by cases c.1==2<;>rfl
 have he:([]:List TY).all okS=true:=rfl;unfold Zgf;dsimp only;repeat' apply okl
 all_goals (try assumption)
 all_goals (try exact hw _)
 all_goals (try exact hr _)
 all_goals (try exact hp _)
 all_goals (try rfl)
 all_goals (try (simp only[List.all_cons,List.all_append,List.all_nil,h1,hr,hw,hp,ho,ht,h32,YZ,YV,YN];done))
 all_goals (cases inj<;>cases h2:c.1==2<;>simp[okS_c,List.all_append,hr,hw,hp,ho,ht,okS,opC,Zgr,h2];done)
theorem ZVd (c:TC) (s:Int) (g:List Int):(ZdB c s g).all okS=true:=by
 unfold ZdB;cases Zd s
 ·cases g with
  |nil=>rfl
  |cons o g=>
   simp only[Yb,List.all_cons,ZW3,YV];rfl
 ·rfl
theorem ZuM (c:TC) (s:Int) (g:List Int) (h:(Zj c s g).2=true):3<=(Zj c s g).1.2.2.2/\(Zj c s g).1.2.2.2<=6:=by
 unfold Zj pick at h|-;have hlt:g.length<(ZdB c s g).length:=by simpa using h
 have:=YT.1 (ZVd c s g) ((ZdB c s g).getD g.length (0,0,0,0)) (by
  rw[Yq,Yj hlt]
  exact YaX _)
 simpa [okS] using this
theorem ZSk (k o:Int):3<=ZeT k o/\ZeT k o<=6:=by unfold ZeT Zz6;simp only[RT.val];repeat' (first|(exact⟨by decide,by decide⟩)|(rw[Bool.cond_eq_ite];split))
theorem ZUS (p:TC) (x:TY) (d:Int) (h:3<=x.2.2.2/\x.2.2.2<=6):3<=(Zax p x d).2.2.2/\(Zax p x d).2.2.2<=6:=by
 have e:(Zax p x d).2.2.2=bif x.1==1||x.1==8 then ZeT p.1 (Zax p x d).2.2.1 else x.2.2.2:=rfl
 rw[e];cases x.1==1||x.1==8
 ·exact h
 ·exact ZSk _ _
theorem ZQQ (k t:Int) (x:TY) (d d':Int) (i o:Bool) (h:(t==3)=false):Zbd k t x d i o=Zbd k t x d' i o:=by unfold Zbd Zi7;simp only[RT.val,h,YX,Yb]
theorem pin_8 (k:Int) (x x':TY) (d d':Int) (i o:Bool):Zbd k 8 x d i o=Zbd k 8 x' d' i o:=rfl
theorem ZX1 (k:Int) (x x':TY) (d d':Int) (i o:Bool):Zbd k 10 x d i o=Zbd k 10 x' d' i o:=rfl
theorem pin_9 (k:Int) (x x':TY) (d d':Int) (i o:Bool) (h:x.2.1=x'.2.1):Zbd k 9 x d i o=Zbd k 9 x' d' i o:=by unfold Zbd Zi7;simp only[RT.val,show ((9:Int)==8)=false from rfl,show ((9:Int)==9)=true from rfl,Ya,Yb,h]
def okI (y:ITMT):Prop:=
 (y.1=1/\3<=y.2.1.2.2.2/\y.2.1.2.2.2<=6/\1<=y.2.2.2.1/\y.2.2.2.1<=y.2.1.2.2.2/\0<=y.2.2.1/\(0<y.2.2.1->2<=y.2.2.2.1/\Zh y.2.1.1=true))\/
 ((y.1=2\/y.1=3\/y.1=4)/\1<=y.2.2.2.1/\y.2.2.1=0)
def adjI (y z:ITMT):Prop:=(y.1=1->y.2.2.2.1<y.2.1.2.2.2->z.1=4)/\(z.1≠1->¬(y.1=z.1/\y.2.2.2.2.1=z.2.2.2.2.1/\y.2.2.2.2.2=z.2.2.2.2.2))
structure GV (m:Int) (l:List ITMT):Prop where
 ok:∀y∈l,okI y
 adj:∀i:Nat,i+1<l.length->adjI (R.get ZhT l (i:Int)) (R.get ZhT l ((i+1:Nat):Int))
 bd:∀y∈l,y.2.2.2.1<=m/\y.2.2.1<=m
theorem ZeB (l:List ITMT) (z:ITMT) (i:Nat) (h:i<l.length):R.get ZhT (l++[z]) (i:Int)=R.get ZhT l (i:Int):=by simp[R.get,Yo h]
theorem ZjT (l:List ITMT) (z:ITMT):R.get ZhT (l++[z]) (l.length:Int)=z:=by simp[R.get]
variable {m m':Int} {l:List ITMT} {z:ITMT}
theorem GV.snoc (h:GV m l) (hm:m<=m') (hz:okI z) (hb:z.2.2.2.1<=m'/\z.2.2.1<=m') (ha:∀l' y,l=l'++[y]->adjI y z):GV m' (l++[z]):=by
 refine⟨λy hy=> ?_,λi hi=> ?_,λy hy=> ?_⟩
 ·rcases Y5.1 hy with hy|hy
  ·exact h.ok y hy
  ·rw[Y9] at hy;subst hy;exact hz
 ·simp only[Yd,List.length_singleton] at hi;by_cases h1:i+1<l.length
  ·rw[ZeB l z i (by omega),ZeB l z (i+1) h1];exact h.adj i h1
  ·have e:i+1=l.length:=by omega
   rw[e,ZjT,ZeB l z i (by omega)];rcases Y2 l with rfl|⟨l',y,rfl⟩
   ·simp at e
   ·rw[Y0] at e|-;have:i=l'.length:=by simp at e;omega
    rw[this,ZjT];exact ha l' y (Y0 ..)
 ·rcases Y5.1 hy with hy|hy
  ·have:=h.bd y hy;omega
  ·rw[Y9] at hy;subst hy;exact hb
theorem GV.split (h:GV m (l++[z])):GV m l/\okI z/\(∀l' y,l=l'++[y]->adjI y z):=by
 refine⟨⟨λy hy=>h.ok y (List.mem_append_left _ hy),λi hi=> ?_,λy hy=>h.bd y (List.mem_append_left _ hy)⟩,h.ok z (by simp),?_⟩
 ·have:=h.adj i (by simp;omega);rw[ZeB l z i (by omega),ZeB l z (i+1) hi] at this;exact this
 ·rintro l' y rfl;have:=h.adj l'.length (by simp);have e:((l'.length+1:Nat):Int)=((l'++[y]).length:Int):=by simp
  rw[e,ZjT,ZeB _ z l'.length (by simp),ZjT] at this;exact this
theorem GV.redo {z':ITMT} (h:GV m (l++[z])) (hm:m<=m') (hz:okI z') (hb:z'.2.2.2.1<=m'/\z'.2.2.1<=m') (h1:z'.1=z.1) (h2:z'.2.2.2.2=z.2.2.2.2):GV m' (l++[z']):=by
 obtain⟨g,_,ha⟩:=h.split;refine g.snoc hm hz hb λl' y e=> ?_
 obtain⟨a1,a2⟩:=ha l' y e;exact⟨by rw[h1];exact a1,by rw[h1,h2];exact a2⟩
def ZOa (c:CORT) (it:List ITMT):Prop:=
 ((c.2.2.2.2.1=2\/c.2.2.2.2.1=3\/c.2.2.2.2.1=7)->∃(l:List ITMT) (w:Int),it=l++[(1,c.2.2.2.1,w,(bif c.2.2.2.2.1==2 then 1 else 2),Z9 c,sodC c)]/\(c.2.2.2.2.1=2->w=0)/\(c.2.2.2.2.1=7->Zh c.2.2.2.1.1=true))/\
 (4<=c.2.2.2.2.1->c.2.2.2.2.1<=6->∃(l:List ITMT) (w:Int),it=l++[(1,c.2.2.2.1,w,c.2.2.2.2.1-1,Z9 c,sodC c)]/\c.2.2.2.2.1<=c.2.2.2.1.2.2.2)/\
 ((c.2.2.2.2.1=1\/c.2.2.2.2.1=8\/c.2.2.2.2.1=9)->∀(l:List ITMT) (y:ITMT),it=l++[y]->(y.1=1->y.2.2.2.1=y.2.1.2.2.2)/\(c.2.2.2.2.1=9->y.1=3->y.2.1.2.1=c.1.2.1.2.2.2.2.2.2.2.2.2))
structure Gr (k m:Int) (c:CORT) (it:List ITMT) (tr:List PINT):Prop where
 chip:c.1.1=k
 ex:expX k it=tr
 gv:GV m it
 la:ZOa c it
theorem Zyw (p:TC) (l:LINT):(Zf p l).2.2.1=p.2.2.1/\(Zf p l).2.2.2.2.2.2.2.2.2.2.2.2=p.2.2.2.2.2.2.2.2.2.2.2.2/\(Zf p l).1=p.1/\(Zf p l).2.1=p.2.1:=by have:=ZvX p l;simp only[unl,pinj] at this;obtain⟨h1,h2,h3,h4,h5,h6,h7⟩:=this;exact⟨h3,by rw[h7],h1,h2⟩
theorem Zy0 (p:TC) (s:Int) (g:List Int) (h:Bool) (l:LINT):(endX p s g h l).1.1=p.1:=by
 unfold endX;cases (Zj p s g).2
 ·simp only[Yb];rw[(Zvz _ _).1,ZSn]
 ·rfl
theorem ZjZ (p:TC) (s:Int) (g:List Int) (h:Bool) (l:LINT):(endX p s g h l).2.2.2.2.1=8\/(endX p s g h l).2.2.2.2.1=9\/(endX p s g h l).2.2.2.2.1=1:=by
 unfold endX;cases (Zj p s g).2
 ·exact (ZeA _ _ _).1
 ·exact (ZeA _ _ _).1
variable {c:CORT}
theorem ZFH {y:ITMT} (h:c.2.2.2.2.1=8\/c.2.2.2.2.1=9\/c.2.2.2.2.1=1) (h1:y.1=1) (h2:y.2.2.2.1=y.2.1.2.2.2):ZOa c (l++[y]):=
 ⟨λe=>by omega,λe1 e2=>by omega,λ_ l' y' e=>by
  obtain⟨_,e2⟩:=Yak e rfl;simp only[Yaz,and_true] at e2;subst e2
  exact⟨λ_=>h2,λ_ e3=>by omega⟩⟩
theorem ZjL {y:ITMT} (h:c.2.2.2.2.1=8\/c.2.2.2.2.1=9\/c.2.2.2.2.1=1) (h1:y.1≠1) (h2:c.2.2.2.2.1=9->y.1=3->y.2.1.2.1=c.1.2.1.2.2.2.2.2.2.2.2.2):ZOa c (l++[y]):=
 ⟨λe=>by omega,λe1 e2=>by omega,λ_ l' y' e=>by
  obtain⟨_,e2⟩:=Yak e rfl;simp only[Yaz,and_true] at e2;subst e2
  exact⟨λe3=>(h1 e3).elim,h2⟩⟩
theorem ZQa (y:ITMT) (h:y.1=2\/y.1=3\/y.1=4) (h1:1<=y.2.2.2.1) (h2:y.2.2.2.1<=1000000):stI (ZuU y)=stI y++[bif y.1==2 then 8 else bif y.1==3 then 9 else 10]/\(ZuU y).2.2.2.1=y.2.2.2.1+1:=by
 have w:IntKind.wrap .i64 (y.2.2.2.1+1)=y.2.2.2.1+1:=wrap_i64 _ (by omega) (by omega);have e1:(y.1==1)=false:=by rcases h with h|h|h<;>rw[h]<;>rfl
 unfold stI ZuU;simp only[w,e1,Yb,and_true];have:(y.2.2.2.1+1).toNat=y.2.2.2.1.toNat+1:=by omega
 rw[this,List.replicate_succ']
theorem Zmi {t:Int} (k:Int) (l:List ITMT) (y z:ITMT) (e:stI z=stI y++[t]) (hp:∀t,pinI k z t=pinI k y t):expX k (l++[z])=expX k (l++[y])++[pinI k y t]:=by rw[ZhL,ZhL,e,Ya0,Yl];congr 1;have:pinI k z=pinI k y:=funext hp;rw[this];rfl
variable {k:Int} {it:List ITMT} {tr:List PINT}
theorem ZCI (hc:c.1.1=k) (ex:expX k it=tr) (gv:GV m it) (hm0:0<=m) (hm:m<=1000000) (kd t:Int) (hk:(kd=2/\t=8)\/(kd=3/\t=9)\/(kd=4/\t=10)) (x:TY) (X:TY) (d:Int)
  (hX:∀(q:TY) (D:Int),(t=9->q.2.1=X.2.1)->Zbd k t q D (Z9 c) (sodC c)=Zbd k t X d (Z9 c) (sodC c)) (hx:t=9->x.2.1=X.2.1)
  (hpc:∀l y,it=l++[y]->kd=3->y.1=3->y.2.1.2.1=X.2.1) (hcomp:∀l y,it=l++[y]->y.1=1->y.2.2.2.1<y.2.1.2.2.2->kd=4):
  ∃l z,ZeN it kd c (kd,x,0,1,Z9 c,sodC c)=l++[z]/\z.1=kd/\(t=9->z.2.1.2.1=X.2.1)/\expX k (l++[z])=tr++[Zbd k t X d (Z9 c) (sodC c)]/\GV (m+1) (l++[z]):=by
 have hkd:kd=2\/kd=3\/kd=4:=by omega
 have ht:(bif kd==2 then (8:Int) else bif kd==3 then 9 else 10)=t:=by rcases hk with ⟨rfl,rfl⟩|⟨rfl,rfl⟩|⟨rfl,rfl⟩<;>rfl
 have e1:(kd==1)=false:=by rcases hkd with h|h|h<;>rw[h]<;>rfl
 have hnew:stI (kd,x,0,1,Z9 c,sodC c)=[t]:=by unfold stI;simp only[e1,Yb,ht];rfl
 have hfresh:expX k (it++[(kd,x,0,1,Z9 c,sodC c)])=tr++[Zbd k t X d (Z9 c) (sodC c)]:=by rw[ZhL,ex,hnew];show tr++[Zbd k t x x.2.2.1 (Z9 c) (sodC c)]=_;rw[hX x x.2.2.1 hx]
 have hz:okI (kd,x,0,1,Z9 c,sodC c):=.inr ⟨hkd,Int.le_refl _,rfl⟩;unfold ZeN;rcases Y2 it with rfl|⟨l',y,rfl⟩
 ·exact⟨[],_,rfl,rfl,hx,hfresh,gv.snoc (by omega) hz ⟨by show (1:Int)<=m+1;omega,by show (0:Int)<=m+1;omega⟩ (λl' y e=>by simp at e)⟩
 ·rw[Y0] at*;simp only[List.getLast?_concat];cases hs:Zsp y kd c
  ·refine⟨_,_,rfl,rfl,hx,hfresh,gv.snoc (by omega) hz ⟨by show (1:Int)<=m+1;omega,by show (0:Int)<=m+1;omega⟩ (λl2 y2 e=> ?_)⟩;obtain⟨_,e2⟩:=Yak e rfl;simp only[Yaz,and_true] at e2;subst e2;refine⟨λa b=>hcomp _ _ rfl a b,λ_ a=> ?_⟩;obtain⟨a1,a2,a3⟩:=a;unfold Zsp at hs;simp only at a1 a2 a3;rw[a1,a2,a3] at hs;simp at hs
  ·simp only[Zsp,Yc,Yaj] at hs;obtain⟨s1,s2,s3⟩:=hs;obtain⟨_,oy,_⟩:=gv.split;have by1:=gv.bd y (by simp);rcases oy with ⟨q,_⟩|⟨_,n1,w0⟩
   ·omega
   ·obtain⟨m1,m2⟩:=ZQa y (by rw[s1];exact hkd) n1 (by omega);rw[s1,ht] at m1;simp only[Ya,ZI];refine⟨l',ZuU y,rfl,s1,λh9=>hpc l' y rfl (by omega) (by omega),?_,?_⟩
    ·rw[Zmi k l' y (ZuU y) m1 (λt=>rfl),ex];show tr++[Zbd k t y.2.1 y.2.1.2.2.1 y.2.2.2.2.1 y.2.2.2.2.2]=_;rw[s2,s3,hX y.2.1 _ (λh9=>hpc l' y rfl (by omega) (by omega))]
    ·exact gv.redo (by omega) (.inr ⟨by rw[show (ZuU y).1=y.1 from rfl,s1];exact hkd,by rw[m2];omega,w0⟩) ⟨by rw[m2];omega,by show y.2.2.1<=m+1;omega⟩ rfl rfl
variable {s0:TC} {ev:List EVTT} {cp:List TC}
theorem ZWF (h:Sem s0 c ev cp it) (g:Gr k m c it tr) (hm0:6<=m) (hm:m<=100000) (l:LINT) (d:Int) (hr:l.2.2.1=false):
  Gr k (m+1) (Zk c l d) (Za1 it c (Zr c (Zm c) d) (Zm c)) (tr++[ZbB c l d]):=by
 obtain⟨hcp,un,nx,rest,nine,cy,hit,ln,pt,ps⟩:=h;clear hit ln un hcp pt ps;obtain⟨chip,ex,gv,la1,la2,la3⟩:=g;obtain⟨p0,s,g,x,n,hd⟩:=c;simp only at nx rest nine cy chip la1 la2 la3;have hb0:(decide (n<1)||decide (n>9))=false:=by simp;omega
 have hst:Zm (p0,s,g,x,n,hd)=n:=by simp only[Zm,ZsE,RT.val,hb0,Yb]
 have hsx:ZX n=n:=by simp only[ZX,hb0,Yb]
 obtain⟨v1,v2,v3,v4⟩:=Zyw p0 l;have hpin:ZbB (p0,s,g,x,n,hd) l d=Zbd k n (Zqh (p0,s,g,x,n,hd) n) d (Z9 (p0,s,g,x,n,hd)) (sodC (p0,s,g,x,n,hd)):=by unfold ZbB;simp only[hsx,hr,Yb,chip];rfl
 have hhc:(n==9)=false->Zqh (p0,s,g,x,n,hd) n=x:=λe=>by unfold Zqh;rw[e];rfl
 rw[hst,hpin];have hi':Z9 (Zf p0 l,s,g,x,n,hd)=Z9 (p0,s,g,x,n,hd):=v1;have hcases:n=1\/n=2\/n=3\/(n=4\/n=5\/n=6)\/n=7\/n=8\/n=9:=by omega
 rcases hcases with e|e|e|hk|e|e|e
 ·--T1
  subst e;have hck:Zk (p0,s,g,x,1,hd) l d=(Zf p0 l,s,g,x,2,hd):=by unfold Zk;simp only[hr,hsx];rfl
  obtain⟨c1,c2⟩:=cy (by omega);have hs36:=ZuM _ _ _ c2;rw[<-c1] at hs36;rw[hck,Zgm _ _ _ rfl,hhc rfl];have hi:Za1 it (p0,s,g,x,1,hd) x 1=it++[(1,x,0,1,Z9 (p0,s,g,x,1,hd),sodC (p0,s,g,x,1,hd))]:=rfl;rw[hi];refine⟨by show (Zf p0 l).1=k;rw[v3];exact chip,?_,?_,?_⟩
  ·rw[ZhL,ex];show tr++[Zbd k 1 x x.2.2.1 _ _]=_;rw[ZQQ k 1 x x.2.2.1 d _ _ rfl]
  ·refine gv.snoc (by omega) (.inl ⟨rfl,hs36.1,hs36.2,Int.le_refl _,by show (1:Int)<=x.2.2.2;omega,Int.le_refl _,λe=>by simp at e⟩) ⟨by show (1:Int)<=m+1;omega,by show (0:Int)<=m+1;omega⟩ λl' y e=> ?_
   have:=(la3 (.inl rfl) l' y e).1;exact⟨λa b=>by have:=this a;omega,λa=>(a rfl).elim⟩
  ·refine⟨λ_=>⟨it,0,?_,λ_=>rfl,λe=>by simp at e⟩,λe=>by simp at e,λe=>by simp at e⟩;show _=it++[(1,x,0,1,(Zf p0 l).2.2.1,(Zf p0 l).2.2.2.2.2.2.2.2.2.2.2.2)];rw[v1,v2];rfl
 ·--T2
  subst e;obtain⟨l',w,rfl,w0,_⟩:=la1 (.inl rfl);have hw0:=w0 rfl;subst hw0;obtain⟨c1,c2⟩:=cy (by omega);have hs36:=ZuM _ _ _ c2;rw[<-c1] at hs36;have hi:Za1 (l'++[(1,x,0,(bif (2:Int)==2 then (1:Int) else 2),Z9 (p0,s,g,x,2,hd),sodC (p0,s,g,x,2,hd))]) (p0,s,g,x,2,hd) (Zr (p0,s,g,x,2,hd) 2 d) 2=l'++[(1,x,0,2,Z9 (p0,s,g,x,2,hd),sodC (p0,s,g,x,2,hd))]:=by rw[Zgm _ _ _ rfl];show ZaI (l'++[_]) _=_;rw[ZI];rfl
  have hck:Zk (p0,s,g,x,2,hd) l d=(Zf p0 l,s,g,x,bif l.1|| !Zh x.1 then 3 else 7,bif l.1|| !Zh x.1 then l.2.1 else hd):=by unfold Zk;simp only[hr,hsx];show (bif l.1|| !Zh x.1 then _ else _)=_;cases l.1|| !Zh x.1<;>rfl
  rw[hi,hck,hhc rfl];refine⟨by show (Zf p0 l).1=k;rw[v3];exact chip,?_,?_,?_⟩
  ·rw[Zmi (t:=2) k l' (1,x,0,1,Z9 (p0,s,g,x,2,hd),sodC (p0,s,g,x,2,hd)) (1,x,0,2,Z9 (p0,s,g,x,2,hd),sodC (p0,s,g,x,2,hd)) rfl (λt=>rfl)];rw[show expX k (l'++[(1,x,0,1,Z9 (p0,s,g,x,2,hd),sodC (p0,s,g,x,2,hd))])=tr from ex];show tr++[Zbd k 2 x x.2.2.1 _ _]=_;rw[ZQQ k 2 x x.2.2.1 d _ _ rfl]
  ·exact gv.redo (by omega) (.inl ⟨rfl,hs36.1,hs36.2,(by show (1:Int)<=2;decide),(by show (2:Int)<=x.2.2.2;omega),Int.le_refl _,λe=>by simp at e⟩) ⟨by show (2:Int)<=m+1;omega,by show (0:Int)<=m+1;omega⟩ rfl rfl
  ·have hk:((bif l.1|| !Zh x.1 then (3:Int) else 7)=3)\/((bif l.1|| !Zh x.1 then (3:Int) else 7)=7/\Zh x.1=true):=by cases l.1<;>cases Zh x.1<;>simp
   generalize (bif l.1|| !Zh x.1 then (3:Int) else 7)=kk at hk;generalize (bif l.1|| !Zh x.1 then l.2.1 else hd)=hh;refine⟨λ_=>⟨l',0,?_,λ_=>rfl,λe=> ?_⟩,λe1 e2=> ?_,λe=> ?_⟩
   ·show _=l'++[(1,x,0,(bif kk==2 then (1:Int) else 2),(Zf p0 l).2.2.1,(Zf p0 l).2.2.2.2.2.2.2.2.2.2.2.2)];have:(kk==2)=false:=by rcases hk with e|⟨e,_⟩<;>rw[e]<;>rfl
    rw[v1,v2,this];rfl
   ·replace e:kk=7:=e;rcases hk with h3|⟨_,h7⟩
    ·omega
    ·exact h7
   ·replace e1:4<=kk:=e1;replace e2:kk<=6:=e2;omega
   ·replace e:kk=1\/kk=8\/kk=9:=e;omega
 ·--T3
  subst e;obtain⟨l',w,rfl,_,_⟩:=la1 (.inr (.inl rfl));obtain⟨c1,c2⟩:=cy (by omega);have hs36:=ZuM _ _ _ c2;rw[<-c1] at hs36;generalize hx3:Zax (Zf p0 l) x d=x3;have hx3':Zax p0 x d=x3:=by rw[<-Zm3 v3];exact hx3
  have hcur:Zr (p0,s,g,x,3,hd) 3 d=x3:=by rw[ZW0 _ _ (Zf p0 l) v3];exact hx3
  have h36:=ZUS p0 x d hs36;rw[hx3'] at h36;obtain⟨oI,oS,oA⟩:∃i o,Z9 (p0,s,g,x,3,hd)=i/\sodC (p0,s,g,x,3,hd)=o:=⟨_,_,rfl,rfl⟩;have hi:Za1 (l'++[(1,x,w,(bif (3:Int)==2 then (1:Int) else 2),Z9 (p0,s,g,x,3,hd),sodC (p0,s,g,x,3,hd))]) (p0,s,g,x,3,hd) (Zr (p0,s,g,x,3,hd) 3 d) 3=l'++[(1,x3,w,3,Z9 (p0,s,g,x,3,hd),sodC (p0,s,g,x,3,hd))]:=by rw[hcur];show ZaI (l'++[_]) _=_;rw[ZI];rfl
  rw[hi,hhc rfl];have okw:=gv.split.2.1;have hbd:=gv.bd _ (List.mem_append_right l' (Y9.2 rfl));have hww:0<=w/\(0<w->Zh x.1=true)/\w<=m:=by
   rcases okw with ⟨_,_,_,_,_,a,b⟩|⟨a,_⟩
   ·exact⟨a,λe=>(b e).2,hbd.2⟩
   ·replace a:(1:Int)=2\/(1:Int)=3\/(1:Int)=4:=a;omega
  have hk3:x3.1=x.1:=by rw[<-hx3'];rfl
  have hgv:GV (m+1) (l'++[(1,x3,w,3,Z9 (p0,s,g,x,3,hd),sodC (p0,s,g,x,3,hd))]):=
   gv.redo (by omega) (.inl ⟨rfl,h36.1,h36.2,(by show (1:Int)<=3;decide),h36.1,hww.1,λe=>⟨(by show (2:Int)<=3;decide),by rw[hk3];exact hww.2.1 e⟩⟩) ⟨by show (3:Int)<=m+1;omega,by show w<=m+1;omega⟩ rfl rfl
  have hex:expX k (l'++[(1,x3,w,3,Z9 (p0,s,g,x,3,hd),sodC (p0,s,g,x,3,hd))])=tr++[Zbd k 3 x d (Z9 (p0,s,g,x,3,hd)) (sodC (p0,s,g,x,3,hd))]:=by
   rw[<-ex,ZhL,ZhL,Yl];congr 1;have e2:stI (1,x3,w,3,Z9 (p0,s,g,x,3,hd),sodC (p0,s,g,x,3,hd))=stC w.toNat 2++[3]:=rfl;have e3:stI (1,x,w,(bif (3:Int)==2 then (1:Int) else 2),Z9 (p0,s,g,x,3,hd),sodC (p0,s,g,x,3,hd))=stC w.toNat 2:=rfl;rw[e2,e3,Ya0];congr 1
   ·refine List.map_congr_left λt ht=> ?_
    have ht3:(t==3)=false:=by
     simp only[stC,Y5,Yy,List.not_mem_nil,or_false,List.mem_replicate] at ht;have:t≠3:=by omega
     simpa using this
    show Zbd k t x3 x3.2.2.1 _ _=Zbd k t x x.2.2.1 _ _;rw[<-hx3',ZQP k t p0 x d _ x.2.2.1 _ _ ht3]
   ·show [Zbd k 3 x3 x3.2.2.1 _ _]=_;rw[<-hx3',pin_3]
  cases hle:le3 x3.2.2.2
  ·have hck:Zk (p0,s,g,x,3,hd) l d=(Zf p0 l,s,g++[x3.2.2.1],x3,4,hd):=by unfold Zk;simp only[hr,hsx,hx3,hle];rfl
   rw[hck];refine⟨by show (Zf p0 l).1=k;rw[v3];exact chip,hex,hgv,λe=>by simp at e,λ_ _=>⟨l',w,?_,?_⟩,λe=>by simp at e⟩
   ·show _=l'++[(1,x3,w,3,(Zf p0 l).2.2.1,(Zf p0 l).2.2.2.2.2.2.2.2.2.2.2.2)];rw[v1,v2];rfl
   ·show (4:Int)<=x3.2.2.2;simp[le3] at hle;omega
  ·have hck:Zk (p0,s,g,x,3,hd) l d=endX (Zf p0 l) s (g++[x3.2.2.1]) hd l:=by unfold Zk;simp only[hr,hsx,hx3,hle];rfl
   rw[hck];refine⟨by rw[Zy0,v3];exact chip,hex,hgv,ZFH (ZjZ _ _ _ _ _) rfl ?_⟩;show (3:Int)=x3.2.2.2;simp[le3] at hle;omega
 ·--T4,T5,T6
  obtain⟨l',w,rfl,hlo⟩:=la2 (by omega) (by omega);have b1:(n==1)=false:=by rcases hk with rfl|rfl|rfl<;>rfl
  have b2:(n==2)=false:=by rcases hk with rfl|rfl|rfl<;>rfl
  have b3:(n==3)=false:=by rcases hk with rfl|rfl|rfl<;>rfl
  have b7:(n==7)=false:=by rcases hk with rfl|rfl|rfl<;>rfl
  have b8:(n==8)=false:=by rcases hk with rfl|rfl|rfl<;>rfl
  have b9:(n==9)=false:=by rcases hk with rfl|rfl|rfl<;>rfl
  have b10:(n==10)=false:=by rcases hk with rfl|rfl|rfl<;>rfl
  have hclk:Zk (p0,s,g,x,n,hd) l d=bif decide (n<x.2.2.2)&& !(n==6) then (Zf p0 l,s,g,x,n+1,hd) else endX (Zf p0 l) s g hd l:=by unfold Zk;simp only[hr,hsx,b1,b2,b3,b7,b8,b9,Yae,Yb]
  clear hst hsx hpin hb0 la1 la2 la3 rest nine cy;have hi:Za1 (l'++[(1,x,w,n-1,Z9 (p0,s,g,x,n,hd),sodC (p0,s,g,x,n,hd))]) (p0,s,g,x,n,hd) (Zr (p0,s,g,x,n,hd) n d) n=l'++[(1,x,w,n,Z9 (p0,s,g,x,n,hd),sodC (p0,s,g,x,n,hd))]:=by
   rw[Zgm _ _ _ b3];have hkn:ZkO n=1:=by unfold ZkO;simp only[b8,b9,b10,Yb]
   have hcn:cycN (p0,s,g,x,n,hd) n x=x:=by unfold cycN;simp only[b8,b9,b10,Yb]
   unfold Za1;simp only[hkn,hcn,b1,b7];show ZaI (l'++[_]) _=_;rw[ZI];show l'++[(1,x,w,IntKind.wrap .i64 (n-1+1),Z9 (p0,s,g,x,n,hd),sodC (p0,s,g,x,n,hd))]=_;rw[wrap_i64 _ (by omega) (by omega),show n-1+1=n by omega]
  rw[hi,hhc b9];obtain⟨_,okw,_⟩:=gv.split;have hbd:=gv.bd _ (List.mem_append_right l' (Y9.2 rfl));obtain⟨o1,o2,o3⟩:0<=w/\(0<w->Zh x.1=true)/\w<=m/\3<=x.2.2.2/\x.2.2.2<=6:=by
   rcases okw with ⟨_,q1,q2,_,_,a,b⟩|⟨a,_⟩
   ·exact⟨a,λe=>(b e).2,hbd.2,q1,q2⟩
   ·replace a:(1:Int)=2\/(1:Int)=3\/(1:Int)=4:=a;omega
  have hgv:GV (m+1) (l'++[(1,x,w,n,Z9 (p0,s,g,x,n,hd),sodC (p0,s,g,x,n,hd))]):=
   gv.redo (by omega) (.inl ⟨rfl,o3.2.1,o3.2.2,by show 1<=n;omega,hlo,o1,λe=>⟨by show 2<=n;omega,o2 e⟩⟩) ⟨by show n<=m+1;omega,by show w<=m+1;omega⟩ rfl rfl
  have hex:expX k (l'++[(1,x,w,n,Z9 (p0,s,g,x,n,hd),sodC (p0,s,g,x,n,hd))])=tr++[Zbd k n x d (Z9 (p0,s,g,x,n,hd)) (sodC (p0,s,g,x,n,hd))]:=by
   have e2:stI (1,x,w,n,Z9 (p0,s,g,x,n,hd),sodC (p0,s,g,x,n,hd))=stI (1,x,w,n-1,Z9 (p0,s,g,x,n,hd),sodC (p0,s,g,x,n,hd))++[n]:=by rcases hk with rfl|rfl|rfl<;>rfl
   rw[Zmi k l' _ _ e2 (λt=>rfl),ex];show tr++[Zbd k n x x.2.2.1 _ _]=_;rw[ZQQ k n x x.2.2.1 d _ _ b3]
  rw[hclk];cases hle:decide (n<x.2.2.2)&& !(n==6)
  ·simp only[Yb];refine⟨by rw[Zy0,v3];exact chip,hex,hgv,ZFH (ZjZ _ _ _ _ _) rfl ?_⟩;show n=x.2.2.2;simp at hle;by_cases q:n<x.2.2.2
   ·have:=hle q;omega
   ·omega
  ·simp only[Ya];simp at hle;refine⟨by show (Zf p0 l).1=k;rw[v3];exact chip,hex,hgv,λe=>by replace e:n+1=2\/n+1=3\/n+1=7:=e;omega,λ_ _=>⟨l',w,?_,by show n+1<=x.2.2.2;omega⟩,λe=>by replace e:n+1=1\/n+1=8\/n+1=9:=e;omega⟩;show _=l'++[(1,x,w,n+1-1,(Zf p0 l).2.2.1,(Zf p0 l).2.2.2.2.2.2.2.2.2.2.2.2)];rw[v1,v2,show n+1-1=n by omega];rfl
 ·--TWait
  subst e;obtain⟨l',w,rfl,_,w7⟩:=la1 (.inr (.inr rfl));have w7:=w7 rfl;obtain⟨c1,c2⟩:=cy (by omega);have hs36:=ZuM _ _ _ c2;rw[<-c1] at hs36;obtain⟨_,okw,_⟩:=gv.split;have hbd:=gv.bd _ (List.mem_append_right l' (Y9.2 rfl));have o1:0<=w:=by
   rcases okw with ⟨_,q1,q2,_,_,a,b⟩|⟨a,_⟩
   ·exact a
   ·replace a:(1:Int)=2\/(1:Int)=3\/(1:Int)=4:=a;omega
  have o2:w<=m:=hbd.2;have hi:Za1 (l'++[(1,x,w,(bif (7:Int)==2 then (1:Int) else 2),Z9 (p0,s,g,x,7,hd),sodC (p0,s,g,x,7,hd))]) (p0,s,g,x,7,hd) (Zr (p0,s,g,x,7,hd) 7 d) 7=l'++[(1,x,w+1,2,Z9 (p0,s,g,x,7,hd),sodC (p0,s,g,x,7,hd))]:=by rw[Zgm _ _ _ rfl];show ZaI (l'++[_]) _=_;rw[ZI];show l'++[(1,x,IntKind.wrap .i64 (w+1),2,Z9 (p0,s,g,x,7,hd),sodC (p0,s,g,x,7,hd))]=_;rw[wrap_i64 _ (by omega) (by omega)]
  have hck:Zk (p0,s,g,x,7,hd) l d=(Zf p0 l,s,g,x,bif l.1|| !Zh x.1 then 3 else 7,bif l.1|| !Zh x.1 then l.2.1 else hd):=by unfold Zk;simp only[hr,hsx];show (bif l.1|| !Zh x.1 then _ else _)=_;cases l.1|| !Zh x.1<;>rfl
  rw[hi,hck,hhc rfl];refine⟨by show (Zf p0 l).1=k;rw[v3];exact chip,?_,?_,?_⟩
  ·have e2:stI (1,x,w+1,2,Z9 (p0,s,g,x,7,hd),sodC (p0,s,g,x,7,hd))=stI (1,x,w,2,Z9 (p0,s,g,x,7,hd),sodC (p0,s,g,x,7,hd))++[7]:=by
    show [1,2]++List.replicate (w+1).toNat 7=[1,2]++List.replicate w.toNat 7++[7];have:(w+1).toNat=w.toNat+1:=by omega
    rw[this,List.replicate_succ',Yl]
   rw[Zmi k l' _ _ e2 (λt=>rfl)];rw[show expX k (l'++[(1,x,w,2,Z9 (p0,s,g,x,7,hd),sodC (p0,s,g,x,7,hd))])=tr from ex];show tr++[Zbd k 7 x x.2.2.1 _ _]=_;rw[ZQQ k 7 x x.2.2.1 d _ _ rfl]
  ·exact gv.redo (by omega) (.inl ⟨rfl,hs36.1,hs36.2,(by show (1:Int)<=2;decide),(by show (2:Int)<=x.2.2.2;omega),(by show 0<=w+1;omega),λ_=>⟨(by show (2:Int)<=2;decide),w7⟩⟩) ⟨by show (2:Int)<=m+1;omega,by show w+1<=m+1;omega⟩ rfl rfl
  ·have hk:((bif l.1|| !Zh x.1 then (3:Int) else 7)=3)\/((bif l.1|| !Zh x.1 then (3:Int) else 7)=7):=by cases l.1|| !Zh x.1<;>simp
   generalize (bif l.1|| !Zh x.1 then (3:Int) else 7)=kk at hk;generalize (bif l.1|| !Zh x.1 then l.2.1 else hd)=hh;refine⟨λ_=>⟨l',w+1,?_,λe=> ?_,λe=>w7⟩,λe1 e2=> ?_,λe=> ?_⟩
   ·show _=l'++[(1,x,w+1,(bif kk==2 then (1:Int) else 2),(Zf p0 l).2.2.1,(Zf p0 l).2.2.2.2.2.2.2.2.2.2.2.2)];have:(kk==2)=false:=by rcases hk with e|e<;>rw[e]<;>rfl
    rw[v1,v2,this];rfl
   ·replace e:kk=2:=e;omega
   ·replace e1:4<=kk:=e1;replace e2:kk<=6:=e2;omega
   ·replace e:kk=1\/kk=8\/kk=9:=e;omega
 ·--THold
  subst e;have hck:Zk (p0,s,g,x,8,hd) l d=(Zf p0 l,s,g,x,idlX (Zf p0 l) s l.2.1,hd):=by unfold Zk;simp only[hr,hsx];rfl
  obtain⟨L,z,j1,j2,j3,j4,j5⟩:=ZCI (c:=(p0,s,g,x,8,hd)) chip ex gv (by omega) (by omega) 2 8 (.inl ⟨rfl,rfl⟩) (0,0,0,0) (Zqh (p0,s,g,x,8,hd) 8) d (λq D _=>pin_8 k _ _ _ _ _ _) (λe=>by simp at e) (λ_ _ _ e=>by simp at e)
   (λl' y e a b=>by have:=(la3 (.inr (.inl rfl)) l' y e).1 a;omega)
  have hi:Za1 it (p0,s,g,x,8,hd) (Zr (p0,s,g,x,8,hd) 8 d) 8=ZeN it 2 (p0,s,g,x,8,hd) (2,(0,0,0,0),0,1,Z9 (p0,s,g,x,8,hd),sodC (p0,s,g,x,8,hd)):=rfl;rw[hi,j1,hck];refine⟨by show (Zf p0 l).1=k;rw[v3];exact chip,j4,j5,ZjL (ZeA _ _ _).1 (by rw[j2];decide) (λ_ e=>by rw[j2] at e;simp at e)⟩
 ·--THalt
  subst e;obtain⟨L,z,j1,j2,j3,j4,j5⟩:=ZCI (c:=(p0,s,g,x,9,hd)) chip ex gv (by omega) (by omega) 3 9 (.inr (.inl ⟨rfl,rfl⟩)) (0,p0.2.1.2.2.2.2.2.2.2.2.2,0,0) (Zqh (p0,s,g,x,9,hd) 9) d (λq D e=>pin_9 k _ _ _ _ _ _ (e rfl)) (λ_=>rfl)
   (λl' y e _ e3=>(la3 (.inr (.inr rfl)) l' y e).2 rfl e3) (λl' y e a b=>by have:=(la3 (.inr (.inr rfl)) l' y e).1 a;omega)
  have hi:Za1 it (p0,s,g,x,9,hd) (Zr (p0,s,g,x,9,hd) 9 d) 9=ZeN it 3 (p0,s,g,x,9,hd) (3,(0,p0.2.1.2.2.2.2.2.2.2.2.2,0,0),0,1,Z9 (p0,s,g,x,9,hd),sodC (p0,s,g,x,9,hd)):=rfl;have hck:Zk (p0,s,g,x,9,hd) l d=bif Zbr (Zf p0 l) l==0 then (Zf p0 l,s,g,x,bif l.2.1 then 8 else 9,hd) else (Zy (Zf p0 l) (Zbr (Zf p0 l) l),Zbr (Zf p0 l) l,[],(Zj (Zy (Zf p0 l) (Zbr (Zf p0 l) l)) (Zbr (Zf p0 l) l) []).1,bif l.2.1 then 8 else 1,hd):=by unfold Zk;simp only[hr,hsx];rfl
  rw[hi,j1,hck];cases hk:Zbr (Zf p0 l) l==0
  ·simp only[Yb];refine⟨by show (Zy (Zf p0 l) _).1=k;rw[(Zvz _ _).1,v3];exact chip,j4,j5,ZjL ?_ (by rw[j2];decide) (λe _=> ?_)⟩
   ·show (bif l.2.1 then (8:Int) else 1)=8\/(bif l.2.1 then (8:Int) else 1)=9\/(bif l.2.1 then (8:Int) else 1)=1;cases l.2.1<;>simp
   ·replace e:(bif l.2.1 then (8:Int) else 1)=9:=e;cases hq:l.2.1<;>rw[hq] at e<;>simp at e
  ·simp only[Ya];refine⟨by show (Zf p0 l).1=k;rw[v3];exact chip,j4,j5,ZjL ?_ (by rw[j2];decide) (λe _=> ?_)⟩
   ·show (bif l.2.1 then (8:Int) else 9)=8\/(bif l.2.1 then (8:Int) else 9)=9\/(bif l.2.1 then (8:Int) else 9)=1;cases l.2.1<;>simp
   ·show z.2.1.2.1=(Zf p0 l).2.1.2.2.2.2.2.2.2.2.2;rw[j3 rfl,v4];rfl
theorem ZSf (g:Gr k m c it tr) (hm0:6<=m) (hm:m<=100000) (l:LINT) (d:Int) (hr:l.2.2.1=true) (x:TY):
  Gr k (m+1) (Zk c l d) (Za1 it c x 10) (tr++[ZbB c l d]):=by
 obtain⟨chip,ex,gv,la⟩:=g;have hck:Zk c l d=ZpW (Z1 c.1) 0:=by unfold Zk;rw[hr];rfl
 have hpin:ZbB c l d=Zbd k 10 (Zqh c (ZX c.2.2.2.2.1)) 0 (Z9 c) (sodC c):=by unfold ZbB;simp only[hr,Ya,chip];rfl
 obtain⟨L,z,j1,j2,j3,j4,j5⟩:=ZCI (c:=c) chip ex gv (by omega) (by omega) 4 10 (.inr (.inr ⟨rfl,rfl⟩)) (0,0,0,0) (Zqh c (ZX c.2.2.2.2.1)) 0 (λq D _=>ZX1 k _ _ _ _ _ _) (λe=>by simp at e) (λ_ _ _ e=>by simp at e) (λ_ _ _ _ _=>rfl);have hi:Za1 it c x 10=ZeN it 4 c (4,(0,0,0,0),0,1,Z9 c,sodC c):=rfl;rw[hi,j1,hck,hpin];exact⟨chip,j4,j5,ZjL (.inr (.inr rfl)) (by rw[j2];decide) (λe=>by replace e:(1:Int)=9:=e;simp at e)⟩
theorem ZSe (b:BRDT) (s0:TC) (k m:Int) (st:STT) (i:INPT) (h:Sem s0 st.1.1 st.2.2.2.1 st.2.2.2.2 st.2.2.1) (g:Gr k m st.1.1 st.2.2.1 st.2.1) (hm0:6<=m) (hm:m<=100000):
  Gr k (m+1) (ZaN b s0 st i).1.1 (ZaN b s0 st i).2.2.1 (ZaN b s0 st i).2.1:=by
 have hcore:(ZL b st.1 i).1.1=Zk st.1.1 (Zag b (Zn b st.1 i) i) (busS b (Zn b st.1 i) i).2:=Zd9 b st.1 i;have hpin:(ZL b st.1 i).2.1=ZbB st.1.1 (Zag b (Zn b st.1 i) i) (busS b (Zn b st.1 i) i).2:=by show ZbB (busS b (Zn b st.1 i) i).1.1 _ _=_;rw[(Ze0 b (Zn b st.1 i) i).1];rfl
 show Gr k (m+1) (ZL b st.1 i).1.1 (Za1 st.2.2.1 st.1.1 (Zr st.1.1 (nowS st.1 i) (busS b (Zn b st.1 i) i).2) (nowS st.1 i)) (st.2.1++[(ZL b st.1 i).2.1]);rw[hcore,hpin];have hl2:(Zag b (Zn b st.1 i) i).2.2.1=i.2.2.1:=rfl;generalize Zag b (Zn b st.1 i) i=l at hl2|-;generalize (busS b (Zn b st.1 i) i).2=d;cases hr:i.2.2.1
 ·have hnow:nowS st.1 i=Zm st.1.1:=by unfold nowS;rw[hr];rfl
  rw[hnow];exact ZWF h g hm0 hm l d (by rw[hl2,hr])
 ·have hnow:nowS st.1 i=10:=by unfold nowS;rw[hr];rfl
  rw[hnow];exact ZSf g hm0 hm l d (by rw[hl2,hr]) _
def okDk (x:TY):Bool:=decide (1<=x.1)&&decide (x.1<=12)
theorem okdk (hx:x.all okDk=true) (hy:y.all okDk=true):(bif b then x else y).all okDk=true:=by cases b<;>assumption
theorem ZYk:(bif b then x else y).all okDk=bif b then x.all okDk else y.all okDk:=by cases b<;>rfl
theorem ZW4 (c:TC) (inj:Bool) (g:List Int) (i:InsT):(Zgf c inj g i).all okDk=true:=by
 have h1:∀k,okDk (opC c inj k)=true:=λk=>by unfold opC;cases inj<;>rfl
 have hw:∀a,(ZdG c a).all okDk=true:=λa=>rfl
 have hr:∀a,(Zim a).all okDk=true:=λa=>rfl
 have hp:∀w,(ZcJ c w).all okDk=true:=λw=>rfl
 have ho:(popX c).all okDk=true:=rfl;have ht:(ZbT c inj i).all okDk=true:=by unfold ZbT;exact okdk (by simp[h1]) (by simp[h1])
 have h32:okDk (5,spOf c,c.2.1.2.2.2.2.2.2.1,bif c.1==2 then 3 else 5)=true:=by cases c.1==2<;>rfl
 have he:([]:List TY).all okDk=true:=rfl;unfold Zgf;dsimp only;repeat' apply okdk
 all_goals (try assumption)
 all_goals (try exact hw _)
 all_goals (try exact hr _)
 all_goals (try exact hp _)
 all_goals (try rfl)
 all_goals (try (simp only[List.all_cons,List.all_append,List.all_nil,h1,hr,hw,hp,ho,ht,h32,YZ,YV,YN];done))
 all_goals (cases inj<;>cases h2:c.1==2<;>simp[ZYk,List.all_append,hr,hw,hp,ho,ht,okDk,opC,Zgr,h2];done)
theorem ZVe (c:TC) (s:Int) (g:List Int):(ZdB c s g).all okDk=true:=by
 unfold ZdB;cases Zd s
 ·cases g with
  |nil=>cases s==5<;>rfl
  |cons o g=>
   simp only[Yb,List.all_cons,ZW4,YV];cases s==5<;>rfl
 ·rfl
theorem ZNB (c:TC) (s:Int) (g:List Int) (h:(Zj c s g).2=true):1<=(Zj c s g).1.1/\(Zj c s g).1.1<=12:=by
 unfold Zj pick at h|-;have hlt:g.length<(ZdB c s g).length:=by simpa using h
 have:=YT.1 (ZVe c s g) ((ZdB c s g).getD g.length (0,0,0,0)) (by
  rw[Yq,Yj hlt]
  exact YaX _)
 simpa [okDk] using this
def ZlB (w k:Int):Int:=bif !Zh k||(k==8||k==9) then 0 else w
def ndW (w k:Int):Int:=bif decide (1<=k)&&decide (k<=7) then w else 0
theorem ZI2 (w k:Int) (h:1<=k/\k<=12) (ha:Zh k=true):ZlB w k=ndW w k:=by
 obtain⟨h1,h2⟩:=h;have:k=1\/k=2\/k=3\/k=4\/k=5\/k=6\/k=7\/k=8\/k=9\/k=10\/k=11\/k=12:=by omega
 rcases this with rfl|rfl|rfl|rfl|rfl|rfl|rfl|rfl|rfl|rfl|rfl|rfl<;>first|rfl|(exact absurd ha (by decide))
theorem ZUb (w k:Int) (ha:Zh k=false):ZlB w k=0:=by unfold ZlB;rw[ha];rfl
theorem nd_ge (w k:Int) (h:0<=w):0<=ndW w k:=by unfold ndW;cases decide (1<=k)&&decide (k<=7)<;>simp[h]
theorem nd_le (w k:Int) (h:0<=w):ndW w k<=w:=by unfold ndW;cases decide (1<=k)&&decide (k<=7)<;>simp[h]
def okW (w:Int) (y:ITMT):Prop:=y.1=1->inR .u16 y.2.1.2.1->y.2.2.1=ZlB w y.2.1.1
def WtL (w:Int) (c:CORT) (wt:Int) (L:List ITMT) (z:ITMT):Prop:=
 (∀y∈L,okW w y)/\(c.2.2.2.2.1=2->z.2.2.1=0)/\
 (c.2.2.2.2.1=7->inR .u16 c.2.2.2.1.2.1->z.2.2.1=wt/\0<=wt/\wt<ndW w c.2.2.2.1.1)/\
 ((3<=c.2.2.2.2.1/\c.2.2.2.2.1<=6)->inR .u16 c.2.2.2.1.2.1->z.2.2.1=ZlB w c.2.2.2.1.1)/\
 ((c.2.2.2.2.1=1\/c.2.2.2.2.1=8\/c.2.2.2.2.1=9)->okW w z)
def Wt (w:Int) (c:CORT) (wt:Int) (it:List ITMT):Prop:=(it=[]/\c.2.2.2.2.1=1)\/∃L z,it=L++[z]/\WtL w c wt L z
theorem ZQc {α:Type} {l l':List α} {a b:α} (h:l++[a]=l'++[b]):l=l'/\a=b:=by have:=Yak h rfl;exact⟨this.1,by simpa using this.2⟩
variable {w wt:Int} {L:List ITMT}
theorem Wt.get (h:Wt w c wt (L++[z])):WtL w c wt L z:=by
 rcases h with ⟨h,_⟩|⟨L',z',h,g⟩
 ·simp at h
 ·obtain⟨rfl,rfl⟩:=ZQc h;exact g
theorem Wt.all (h:Wt w c wt it) (hn:c.2.2.2.2.1=1\/c.2.2.2.2.1=8\/c.2.2.2.2.1=9):∀y∈it,okW w y:=by
 rcases h with ⟨h,_⟩|⟨L,z,rfl,g⟩
 ·rw[h];intro y hy;cases hy
 ·intro y hy;rcases Y5.1 hy with hy|hy
  ·exact g.1 y hy
  ·rw[Y9] at hy;subst hy;exact g.2.2.2.2 hn
theorem ZOn (h:∀y∈it,okW w y) (kd:Int) (hk:kd≠1) (c:CORT) (n:ITMT) (hn:n.1=kd):∃L z,ZeN it kd c n=L++[z]/\(∀y∈L,okW w y)/\z.1=kd:=by
 unfold ZeN;rcases Y2 it with rfl|⟨l,y,rfl⟩
 ·exact⟨[],n,rfl,λy hy=>(by cases hy),hn⟩
 ·rw[Y0] at h|-;rw[List.getLast?_concat];dsimp only;cases hs:Zsp y kd c
  ·exact⟨l++[y],n,rfl,h,hn⟩
  ·simp only[Ya];rw[ZI];refine⟨l,ZuU y,rfl,λz hz=>h z (List.mem_append_left _ hz),?_⟩;unfold Zsp at hs;simp only[Yc,Yaj] at hs;exact hs.1
theorem ZC6 (hL:∀y∈L,okW w y) (hn:c.2.2.2.2.1=8\/c.2.2.2.2.1=9\/c.2.2.2.2.1=1) (hz:okW w z):Wt w c wt (L++[z]):=
 .inr ⟨L,z,rfl,hL,λe=>by omega,λe=>by omega,λe=>by omega,λ_=>hz⟩
theorem ZUa (h:Sem s0 c ev cp it) (g:Gr k m c it tr) (hm0:6<=m) (hm:m<=100000) (w:Int) (hw:0<=w/\w<=5) (wt:Int)
  (W:Wt w c wt it) (l:LINT) (d:Int) (hr:l.2.2.1=false) (nd:Int) (hnd:inR .u16 c.2.2.2.1.2.1->1<=c.2.2.2.1.1/\c.2.2.2.1.1<=12->nd=ndW w c.2.2.2.1.1)
  (hl:l.1=decide ((bif Zm c !=7 then 0 else IntKind.wrap .i64 (wt+1))>=nd)):
  Wt w (Zk c l d) (bif Zm c !=7 then 0 else IntKind.wrap .i64 (wt+1)) (Za1 it c (Zr c (Zm c) d) (Zm c)):=by
 obtain⟨hcp,un,nx,rest,nine,cy,hit,ln,pt,ps⟩:=h;clear hit ln un hcp pt ps;obtain⟨chip,ex,gv,la1,la2,la3⟩:=g;obtain⟨p0,s,g,x,n,hd⟩:=c;simp only at nx rest nine cy chip la1 la2 la3 hnd;have hb0:(decide (n<1)||decide (n>9))=false:=by simp;omega
 have hst:Zm (p0,s,g,x,n,hd)=n:=by simp only[Zm,ZsE,RT.val,hb0,Yb]
 have hsx:ZX n=n:=by simp only[ZX,hb0,Yb]
 obtain⟨v1,v2,v3,v4⟩:=Zyw p0 l;rw[hst] at hl|-;have hcases:n=1\/n=2\/n=3\/(n=4\/n=5\/n=6)\/n=7\/n=8\/n=9:=by omega
 rcases hcases with e|e|e|hk|e|e|e
 ·--T1
  subst e;have hck:Zk (p0,s,g,x,1,hd) l d=(Zf p0 l,s,g,x,2,hd):=by unfold Zk;simp only[hr,hsx];rfl
  rw[hck,Zgm _ _ _ rfl];have hi:Za1 it (p0,s,g,x,1,hd) x 1=it++[(1,x,0,1,Z9 (p0,s,g,x,1,hd),sodC (p0,s,g,x,1,hd))]:=rfl;rw[hi];exact .inr ⟨it,_,rfl,W.all (.inl rfl),λ_=>rfl,λe=>by simp at e,λe=>by simp at e,λe=>by simp at e⟩
 ·--T2
  subst e;obtain⟨l',v,rfl,w0,_⟩:=la1 (.inl rfl);have hw0:=w0 rfl;subst hw0;obtain⟨c1,c2⟩:=cy (by omega);have hkd:=ZNB _ _ _ c2;rw[<-c1] at hkd;have hi:Za1 (l'++[(1,x,0,(bif (2:Int)==2 then (1:Int) else 2),Z9 (p0,s,g,x,2,hd),sodC (p0,s,g,x,2,hd))]) (p0,s,g,x,2,hd) (Zr (p0,s,g,x,2,hd) 2 d) 2=l'++[(1,x,0,2,Z9 (p0,s,g,x,2,hd),sodC (p0,s,g,x,2,hd))]:=by rw[Zgm _ _ _ rfl];show ZaI (l'++[_]) _=_;rw[ZI];rfl
  have hck:Zk (p0,s,g,x,2,hd) l d=(Zf p0 l,s,g,x,bif l.1|| !Zh x.1 then 3 else 7,bif l.1|| !Zh x.1 then l.2.1 else hd):=by unfold Zk;simp only[hr,hsx];show (bif l.1|| !Zh x.1 then _ else _)=_;cases l.1|| !Zh x.1<;>rfl
  rw[hi,hck];have hW:=(Wt.get W).1;replace hl:l.1=decide ((0:Int)>=nd):=hl;have hge:=nd_ge w x.1 hw.1;refine .inr ⟨l',_,rfl,hW,λ_=>rfl,?_,?_,?_⟩
  ·intro e hin;replace e:(bif l.1|| !Zh x.1 then (3:Int) else 7)=7:=e;have hnd:=hnd hin hkd;cases hq:l.1
   ·rw[hq] at hl;have:¬(0:Int)>=nd:=by simpa using hl.symm
    refine⟨rfl,Int.le_refl _,?_⟩;show (0:Int)<ndW w x.1;omega
   ·rw[hq] at e;simp at e
  ·intro e hin;have hnd:=hnd hin hkd;show (0:Int)=ZlB w x.1;cases ha:Zh x.1
   ·rw[ZUb w x.1 ha]
   ·rw[ZI2 w x.1 hkd ha];replace e:3<=(bif l.1|| !Zh x.1 then (3:Int) else 7)/\(bif l.1|| !Zh x.1 then (3:Int) else 7)<=6:=e;cases hq:l.1
    ·rw[hq,ha] at e;simp at e
    ·rw[hq] at hl;have:(0:Int)>=nd:=by simpa using hl.symm
     omega
  ·intro e;replace e:(bif l.1|| !Zh x.1 then (3:Int) else 7)=1\/(bif l.1|| !Zh x.1 then (3:Int) else 7)=8\/(bif l.1|| !Zh x.1 then (3:Int) else 7)=9:=e;revert e;cases l.1|| !Zh x.1<;>simp
 ·--T3
  subst e;obtain⟨l',v,rfl,_,_⟩:=la1 (.inr (.inl rfl));have hW:=Wt.get W;generalize hx3:Zax (Zf p0 l) x d=x3;have hx3':Zax p0 x d=x3:=by rw[<-Zm3 v3];exact hx3
  have hcur:Zr (p0,s,g,x,3,hd) 3 d=x3:=by rw[ZW0 _ _ (Zf p0 l) v3];exact hx3
  have hi:Za1 (l'++[(1,x,v,(bif (3:Int)==2 then (1:Int) else 2),Z9 (p0,s,g,x,3,hd),sodC (p0,s,g,x,3,hd))]) (p0,s,g,x,3,hd) (Zr (p0,s,g,x,3,hd) 3 d) 3=l'++[(1,x3,v,3,Z9 (p0,s,g,x,3,hd),sodC (p0,s,g,x,3,hd))]:=by rw[hcur];show ZaI (l'++[_]) _=_;rw[ZI];rfl
  rw[hi];have hk3:x3.1=x.1:=by rw[<-hx3'];rfl
  have ha3:x3.2.1=x.2.1:=by rw[<-hx3'];rfl
  have hv:inR .u16 x.2.1->v=ZlB w x.1:=hW.2.2.2.1 (by show 3<=(3:Int)/\(3:Int)<=6;omega);have hz:okW w (1,x3,v,3,Z9 (p0,s,g,x,3,hd),sodC (p0,s,g,x,3,hd)):=λ_ hin=>by show v=ZlB w x3.1;rw[hk3];exact hv (by rw[<-ha3];exact hin)
  cases hle:le3 x3.2.2.2
  ·have hck:Zk (p0,s,g,x,3,hd) l d=(Zf p0 l,s,g++[x3.2.2.1],x3,4,hd):=by unfold Zk;simp only[hr,hsx,hx3,hle];rfl
   rw[hck];exact .inr ⟨l',_,rfl,hW.1,λe=>by simp at e,λe=>by simp at e,λ_ hin=>hz rfl hin,λe=>by simp at e⟩
  ·have hck:Zk (p0,s,g,x,3,hd) l d=endX (Zf p0 l) s (g++[x3.2.2.1]) hd l:=by unfold Zk;simp only[hr,hsx,hx3,hle];rfl
   rw[hck];exact ZC6 hW.1 (ZjZ _ _ _ _ _) hz
 ·--T4,T5,T6
  obtain⟨l',v,rfl,hlo⟩:=la2 (by omega) (by omega);have hW:=Wt.get W;have b1:(n==1)=false:=by rcases hk with rfl|rfl|rfl<;>rfl
  have b2:(n==2)=false:=by rcases hk with rfl|rfl|rfl<;>rfl
  have b3:(n==3)=false:=by rcases hk with rfl|rfl|rfl<;>rfl
  have b7:(n==7)=false:=by rcases hk with rfl|rfl|rfl<;>rfl
  have b8:(n==8)=false:=by rcases hk with rfl|rfl|rfl<;>rfl
  have b9:(n==9)=false:=by rcases hk with rfl|rfl|rfl<;>rfl
  have b10:(n==10)=false:=by rcases hk with rfl|rfl|rfl<;>rfl
  have hclk:Zk (p0,s,g,x,n,hd) l d=bif decide (n<x.2.2.2)&& !(n==6) then (Zf p0 l,s,g,x,n+1,hd) else endX (Zf p0 l) s g hd l:=by unfold Zk;simp only[hr,hsx,b1,b2,b3,b7,b8,b9,Yae,Yb]
  have hv:inR .u16 x.2.1->v=ZlB w x.1:=hW.2.2.2.1 (by rcases hk with rfl|rfl|rfl<;>simp);clear hst hsx hb0 la1 la2 la3 rest nine cy;have hi:Za1 (l'++[(1,x,v,n-1,Z9 (p0,s,g,x,n,hd),sodC (p0,s,g,x,n,hd))]) (p0,s,g,x,n,hd) (Zr (p0,s,g,x,n,hd) n d) n=l'++[(1,x,v,n,Z9 (p0,s,g,x,n,hd),sodC (p0,s,g,x,n,hd))]:=by
   rw[Zgm _ _ _ b3];have hkn:ZkO n=1:=by unfold ZkO;simp only[b8,b9,b10,Yb]
   have hcn:cycN (p0,s,g,x,n,hd) n x=x:=by unfold cycN;simp only[b8,b9,b10,Yb]
   unfold Za1;simp only[hkn,hcn,b1,b7];show ZaI (l'++[_]) _=_;rw[ZI];show l'++[(1,x,v,IntKind.wrap .i64 (n-1+1),Z9 (p0,s,g,x,n,hd),sodC (p0,s,g,x,n,hd))]=_;rw[wrap_i64 _ (by omega) (by omega),show n-1+1=n by omega]
  rw[hi,hclk];have hz:okW w (1,x,v,n,Z9 (p0,s,g,x,n,hd),sodC (p0,s,g,x,n,hd)):=λ_ hin=>hv hin
  cases hle:decide (n<x.2.2.2)&& !(n==6)
  ·simp only[Yb];exact ZC6 hW.1 (ZjZ _ _ _ _ _) hz
  ·simp only[Ya];simp at hle;exact .inr ⟨l',_,rfl,hW.1,λe=>by replace e:n+1=2:=e;omega,λe=>by replace e:n+1=7:=e;omega,λ_ hin=>hv hin,λe=>by replace e:n+1=1\/n+1=8\/n+1=9:=e;omega⟩
 ·--TWait
  subst e;obtain⟨l',v,rfl,_,w7⟩:=la1 (.inr (.inr rfl));have w7:=w7 rfl;have hW:=Wt.get W;obtain⟨c1,c2⟩:=cy (by omega);have hkd:=ZNB _ _ _ c2;rw[<-c1] at hkd;obtain⟨_,okw,_⟩:=gv.split;have hbd:=gv.bd _ (List.mem_append_right l' (Y9.2 rfl));have o1:0<=v:=by
   rcases okw with ⟨_,q1,q2,_,_,a,b⟩|⟨a,_⟩
   ·exact a
   ·replace a:(1:Int)=2\/(1:Int)=3\/(1:Int)=4:=a;omega
  have o2:v<=m:=hbd.2;have hi:Za1 (l'++[(1,x,v,(bif (7:Int)==2 then (1:Int) else 2),Z9 (p0,s,g,x,7,hd),sodC (p0,s,g,x,7,hd))]) (p0,s,g,x,7,hd) (Zr (p0,s,g,x,7,hd) 7 d) 7=l'++[(1,x,v+1,2,Z9 (p0,s,g,x,7,hd),sodC (p0,s,g,x,7,hd))]:=by rw[Zgm _ _ _ rfl];show ZaI (l'++[_]) _=_;rw[ZI];show l'++[(1,x,IntKind.wrap .i64 (v+1),2,Z9 (p0,s,g,x,7,hd),sodC (p0,s,g,x,7,hd))]=_;rw[wrap_i64 _ (by omega) (by omega)]
  have hck:Zk (p0,s,g,x,7,hd) l d=(Zf p0 l,s,g,x,bif l.1|| !Zh x.1 then 3 else 7,bif l.1|| !Zh x.1 then l.2.1 else hd):=by unfold Zk;simp only[hr,hsx];show (bif l.1|| !Zh x.1 then _ else _)=_;cases l.1|| !Zh x.1<;>rfl
  rw[hi,hck];have h7:inR .u16 x.2.1->v=wt/\0<=wt/\wt<ndW w x.1:=hW.2.2.1 rfl;have hle:=nd_le w x.1 hw.1;replace hl:l.1=decide (IntKind.wrap .i64 (wt+1)>=nd):=hl;refine .inr ⟨l',_,rfl,hW.1,?_,?_,?_,?_⟩
  ·intro e;replace e:(bif l.1|| !Zh x.1 then (3:Int) else 7)=2:=e;revert e;cases l.1|| !Zh x.1<;>simp
  ·intro e hin;replace e:(bif l.1|| !Zh x.1 then (3:Int) else 7)=7:=e;have hnd:=hnd hin hkd;obtain⟨q1,q2,q3⟩:=h7 hin;have hwr:IntKind.wrap .i64 (wt+1)=wt+1:=wrap_i64 _ (by omega) (by omega);cases hq:l.1
   ·rw[hq,hwr] at hl;have:¬wt+1>=nd:=by simpa using hl.symm
    refine⟨?_,?_,?_⟩
    ·show v+1=IntKind.wrap .i64 (wt+1);rw[hwr,q1]
    ·show 0<=IntKind.wrap .i64 (wt+1);rw[hwr];omega
    ·show IntKind.wrap .i64 (wt+1)<ndW w x.1;rw[hwr];omega
   ·rw[hq] at e;simp at e
  ·intro e hin;have hnd:=hnd hin hkd;obtain⟨q1,q2,q3⟩:=h7 hin;have hwr:IntKind.wrap .i64 (wt+1)=wt+1:=wrap_i64 _ (by omega) (by omega);show v+1=ZlB w x.1;rw[ZI2 w x.1 hkd w7];replace e:3<=(bif l.1|| !Zh x.1 then (3:Int) else 7)/\(bif l.1|| !Zh x.1 then (3:Int) else 7)<=6:=e;cases hq:l.1
   ·rw[hq,w7] at e;simp at e
   ·rw[hq,hwr] at hl;have:wt+1>=nd:=by simpa using hl.symm
    omega
  ·intro e;replace e:(bif l.1|| !Zh x.1 then (3:Int) else 7)=1\/(bif l.1|| !Zh x.1 then (3:Int) else 7)=8\/(bif l.1|| !Zh x.1 then (3:Int) else 7)=9:=e;revert e;cases l.1|| !Zh x.1<;>simp
 ·--THold
  subst e;have hck:Zk (p0,s,g,x,8,hd) l d=(Zf p0 l,s,g,x,idlX (Zf p0 l) s l.2.1,hd):=by unfold Zk;simp only[hr,hsx];rfl
  have hi:Za1 it (p0,s,g,x,8,hd) (Zr (p0,s,g,x,8,hd) 8 d) 8=ZeN it 2 (p0,s,g,x,8,hd) (2,(0,0,0,0),0,1,Z9 (p0,s,g,x,8,hd),sodC (p0,s,g,x,8,hd)):=rfl;obtain⟨L,z,j1,j2,j3⟩:=ZOn (W.all (.inr (.inl rfl))) 2 (by decide) (p0,s,g,x,8,hd) (2,(0,0,0,0),0,1,Z9 (p0,s,g,x,8,hd),sodC (p0,s,g,x,8,hd)) rfl;rw[hi,j1,hck];exact ZC6 j2 (ZeA _ _ _).1 (λe=>by omega)
 ·--THalt
  subst e;have hi:Za1 it (p0,s,g,x,9,hd) (Zr (p0,s,g,x,9,hd) 9 d) 9=ZeN it 3 (p0,s,g,x,9,hd) (3,(0,p0.2.1.2.2.2.2.2.2.2.2.2,0,0),0,1,Z9 (p0,s,g,x,9,hd),sodC (p0,s,g,x,9,hd)):=rfl;obtain⟨L,z,j1,j2,j3⟩:=ZOn (W.all (.inr (.inr rfl))) 3 (by decide) (p0,s,g,x,9,hd) (3,(0,p0.2.1.2.2.2.2.2.2.2.2.2,0,0),0,1,Z9 (p0,s,g,x,9,hd),sodC (p0,s,g,x,9,hd)) rfl;have hck:Zk (p0,s,g,x,9,hd) l d=bif Zbr (Zf p0 l) l==0 then (Zf p0 l,s,g,x,bif l.2.1 then 8 else 9,hd) else (Zy (Zf p0 l) (Zbr (Zf p0 l) l),Zbr (Zf p0 l) l,[],(Zj (Zy (Zf p0 l) (Zbr (Zf p0 l) l)) (Zbr (Zf p0 l) l) []).1,bif l.2.1 then 8 else 1,hd):=by unfold Zk;simp only[hr,hsx];rfl
  rw[hi,j1,hck];refine ZC6 j2 ?_ (λe=>by omega);cases Zbr (Zf p0 l) l==0<;>cases l.2.1<;>simp
theorem Zms (b:BRDT) (s:SYST) (i:INPT):(ZL b s i).1.2.2.2.2.1=Za4 s:=by
 have hr:∀q r,(Zlg q r).2.2.2.2.1=q.2.2.2.2.1:=λq r=>by cases r<;>rfl
 have hs:∀q x,(ZiU b q x).2.2.2.2.1=q.2.2.2.2.1:=λq x=>by unfold ZiU;dsimp only;cases x.1 !=7<;>rfl
 show (Zlg (Zet b s i) i.2.2.1).2.2.2.2.1=_;rw[hr];have hm:(Zet b s i).2.2.2.2.1=(Za2 b s i).2.2.2.2.1:=by unfold Zet;dsimp only;cases ZbY b s i<;>rfl
 rw[hm];have h2:(Za2 b s i).2.2.2.2.1=(Zgw b s i).2.2.2.2.1:=by unfold Za2;cases Zgx s i<;>simp only[Ya,Yb,hs]
 rw[h2];rfl
def ZWD (i:INPT):Prop:=i.1=true/\i.2.2.1=false
theorem ZPI (b:BRDT) (s0:TC) (k m:Int) (st:STT) (i:INPT) (h:Sem s0 st.1.1 st.2.2.2.1 st.2.2.2.2 st.2.2.1) (g:Gr k m st.1.1 st.2.2.1 st.2.1) (hm0:6<=m) (hm:m<=100000) (w:Int) (hw:0<=w/\w<=5)
  (hb:∀x:TY,inR .u16 x.2.1->1<=x.1/\x.1<=12->Zmy b x=ndW w x.1) (hid:ZWD i) (W:Wt w st.1.1 st.1.2.2.2.2.1 st.2.2.1):
  Wt w (ZaN b s0 st i).1.1 (ZaN b s0 st i).1.2.2.2.2.1 (ZaN b s0 st i).2.2.1:=by
 have hcore:(ZL b st.1 i).1.1=Zk st.1.1 (Zag b (Zn b st.1 i) i) (busS b (Zn b st.1 i) i).2:=Zd9 b st.1 i;have hwk:=Zms b st.1 i;show Wt w (ZL b st.1 i).1.1 (ZL b st.1 i).1.2.2.2.2.1 (Za1 st.2.2.1 st.1.1 (Zr st.1.1 (nowS st.1 i) (busS b (Zn b st.1 i) i).2) (nowS st.1 i));have hnow:nowS st.1 i=Zm st.1.1:=by unfold nowS;rw[hid.2];rfl
 rw[hcore,hwk,hnow];have hwt:Za4 st.1=bif Zm st.1.1 !=7 then 0 else IntKind.wrap .i64 (st.1.2.2.2.2.1+1):=by unfold Za4 ZlL;simp only[RT.val]
 rw[hwt];have hl1:(Zag b (Zn b st.1 i) i).1=decide ((bif Zm st.1.1 !=7 then 0 else IntKind.wrap .i64 (st.1.2.2.2.2.1+1))>=Zmy b st.1.1.2.2.2.1):=by rw[<-hwt];show (i.1&&decide (Za4 (Zn b st.1 i)>=Zmy b st.1.1.2.2.2.1))=_;rw[hid.1];rfl
 exact ZUa h g hm0 hm w hw st.1.2.2.2.2.1 W (Zag b (Zn b st.1 i) i) _ hid.2 (Zmy b st.1.1.2.2.2.1) (hb st.1.1.2.2.2.1) hl1
theorem ZIX (b:BRDT) (s0:TC) (k w:Int) (hw:0<=w/\w<=5) (hb:∀x:TY,inR .u16 x.2.1->1<=x.1/\x.1<=12->Zmy b x=ndW w x.1):∀(l:List INPT) (m:Int) (st:STT),Sem s0 st.1.1 st.2.2.2.1 st.2.2.2.2 st.2.2.1->Gr k m st.1.1 st.2.2.1 st.2.1->6<=m->m+l.length<=100000->
  (∀i∈l,ZWD i)->Wt w st.1.1 st.1.2.2.2.2.1 st.2.2.1->Wt w (ZbO b s0 st l).1.1 (ZbO b s0 st l).1.2.2.2.2.1 (ZbO b s0 st l).2.2.1
 |[],m,st,h,g,_,_,_,W=>W
 |i::l,m,st,h,g,h1,h2,hi,W=>by
  simp only[List.length_cons] at h2;exact ZIX b s0 k w hw hb l (m+1) (ZaN b s0 st i) (ZJ8 b s0 st i h) (ZSe b s0 k m st i h g h1 (by omega)) (by omega) (by omega) (λj hj=>hi j (YR _ hj))
   (ZPI b s0 k m st i h g h1 (by omega) w hw hb (hi i (by simp)) W)
theorem ZFR:(ZyH 80).val=some (List.replicate 80 Zl):=by kernel_rfl
theorem ZOC:(ZyH 160).val=some (List.replicate 160 Zl):=by kernel_rfl
def ZOZ:List Int:=(List.replicate 80 [0,0,0,165]).flatten
def Zy1:List Int:=(List.replicate 160 [0,0,0,165]).flatten
theorem ZOX:(ZdQ (List.replicate 80 Zl)).val=some ZOZ:=by kernel_rfl
theorem ZF1:(ZdQ (List.replicate 160 Zl)).val=some Zy1:=by kernel_rfl
theorem dec80:decX ZOZ=List.replicate 80 Zl:=by kernel_rfl
theorem ZYK:decX Zy1=List.replicate 160 Zl:=by kernel_rfl
theorem ZWC:Zgl 80=true/\ZhU 80=List.replicate 80 Zl/\ZcE (List.replicate 80 Zl)=true/\ZcH (List.replicate 80 Zl)=ZOZ:=
 ⟨by simp only[Zgl,ZFR,okB],by simp only[ZhU,ZFR,getO],by simp only[ZcE,ZOX,okB],by simp only[ZcH,ZOX,getO]⟩
def allR (w:Int):List ZO:=[(0,65535,true,w)]
theorem Zvd (w t:Int):Zcp (allR w) t=if 0<=t/\t<=65535 then 0 else-1:=by
 unfold Zcp allR;by_cases h:0<=t/\t<=65535
 ·have:hitB t (0,65535,true,w)=true:=by simp[hitB];omega
  simp[List.findIdx_cons,this,h]
 ·have:hitB t (0,65535,true,w)=false:=by simp[hitB];omega
  simp[List.findIdx_cons,this,h]
theorem ZvD (w t:Int) (hw:0<=w/\w<=5):Zgy (allR w) t=if 0<=t/\t<=65535 then w else 0:=by
 unfold Zgy;rw[Zvd];by_cases h:0<=t/\t<=65535
 ·rw[YY h,YY h];show limX w=w;unfold limX;split<;>split<;>omega
 ·rw[Y3 h,Y3 h];rfl
theorem ZN6 (w:Int) (hw:0<=w/\w<=5):Znf w=w:=by rw[<-Zyz];split<;>split<;>omega
theorem ZPE (n:List Int) (b:BRDT) (hb:b=(ZbX (n,0)).1) (w io:Int) (hw:0<=w/\w<=100) (hio:0<=io/\io<=100) (c:BRDT) (hc:c.1=b.1/\c.2.1=allR w/\c.2.2.1=io/\vldB c.2.2.2.2.2.2=true/\c.2.2.2.2.2.2.length<=1000):wNew c=(newS c,0):=by
 obtain⟨c1,b1,⟨s1,bs1,hr⟩,hch,_,l,hl,hi⟩:=Zg4 (Zpy n) (by omega);rw[<-hb] at hch;obtain⟨k1,k2,k3,k4,k5⟩:=hc;have hg:smG c.2.1=true:=by rw[k2];exact smGb (by simp[allR])
 refine ZND c hg (by omega) ?_;rw[(Zmx c hg (by omega)).2.1];have hx:Zbt c.2.1=0:=by
  rw[k2];have:badR (0,65535,true,w)=false:=by simp[badR];omega
  simp[Zbt,allR,this,iN,Le]
 have hcc:smC c.2.2.2.2.2.2=true:=smCb (by omega);have q3:(c.1 !=1&&c.1 !=2)=false:=by rw[k1];rcases hch with e|e<;>rw[e]<;>rfl
 have q4:decide (c.2.2.1<0)=false:=YG (by omega);have q5:decide (c.2.2.1>100)=false:=YG (by omega);have hv:(Zeb c).val=some 0:=by unfold Zeb;simp only[RT.val,q3,hg,hx,q4,q5,hcc,k4,Yk,Yf,Yae,Ya,Yb];rfl
 simp only[ZbZ,hv,getO];rfl
theorem ZRI (b:BRDT) (w:Int) (hw:0<=w/\w<=5) (h1:b.2.1=allR w) (h2:b.2.2.1=w) (x:TY) (hx:inR .u16 x.2.1) (hk:1<=x.1/\x.1<=12):Zmy b x=ndW w x.1:=by
 rw[ZB6 b x (by rw[h1];exact smGb (by simp[allR])),h1,h2,ZvD w _ hw,ZN6 w hw,YY (Zf0.1 hx)];unfold ndW;by_cases e1:x.1<=5
 ·have a1:(decide (x.1>=1)&&decide (x.1<=5))=true:=by simp;omega
  have a2:(decide (1<=x.1)&&decide (x.1<=7))=true:=by simp;omega
  rw[a1,a2];rfl
 ·have a1:(decide (x.1>=1)&&decide (x.1<=5))=false:=by simp;omega
  by_cases e2:x.1<=7
  ·have a2:(decide (1<=x.1)&&decide (x.1<=7))=true:=by simp;omega
   have a3:(x.1==6||x.1==7)=true:=by simp;omega
   rw[a1,a2,a3];rfl
  ·have a2:(decide (1<=x.1)&&decide (x.1<=7))=false:=by simp;omega
   have a3:(x.1==6||x.1==7)=false:=by simp;omega
   rw[a1,a2,a3];rfl
theorem ZKj (b:BRDT) (w:Int) (hw:0<=w/\w<=5) (h1:b.2.1=allR w) (h2:b.2.2.1=w) (hn:wNew b=(newS b,0)) (l:List INPT) (hl:l.length<=1000) (hi:∀i∈l,ZWD i):
  (ZbL b l).1.2.1=[]\/∃L z,(ZbL b l).1.2.1=L++[z]/\∀y∈L,okW w y:=by
 obtain⟨hs,hsem⟩:=ZR9 b hn;have hch:(Zbg b).1.1.1.1=b.1:=by unfold Zbg;rw[hn];rfl
 have hnx:(Zbg b).1.1.2.2.2.2.1=1:=by unfold Zbg;rw[hn];rfl
 have g0:Gr b.1 6 (Zbg b).1.1 (Zbg b).2.2.1 (Zbg b).2.1:=
  ⟨hch,rfl,⟨λy hy=>(by cases hy),λi hi=>(by simp[Zbg] at hi),λy hy=>(by cases hy)⟩,⟨λe=>(by rw[hnx] at e;simp at e),λe=>(by rw[hnx] at e;simp at e),λ_ l y e=>(by simp[Zbg] at e)⟩⟩
 have hf:=ZIX b (Z2 b) b.1 w hw (λx hx hk=>ZRI b w hw h1 h2 x hx hk) l 6 (Zbg b) hsem g0 (by omega) (by omega) hi (.inl ⟨rfl,hnx⟩);rw[ZiZ b l hn];have e1:(endS (Z2 b) (ZbO b (Z2 b) (Zbg b) l)).2.1=(ZbO b (Z2 b) (Zbg b) l).2.2.1:=by unfold endS;cases ZdU (ZbO b (Z2 b) (Zbg b) l).1.1<;>rfl
 show (endS (Z2 b) (ZbO b (Z2 b) (Zbg b) l)).2.1=[]\/∃L z,(endS (Z2 b) (ZbO b (Z2 b) (Zbg b) l)).2.1=L++[z]/\_;rw[e1];rcases hf with ⟨h,_⟩|⟨L,z,h,g⟩
 ·exact .inl h
 ·exact .inr ⟨L,z,h,g.1⟩
theorem bwai_law (n:List Int) (w:Int):ZOc n w=true/\ZRU n w=true:=by
 have hms:=mst;have hv:(Zrs n w).val=some true:=by
  cases hx:decide (iN (List.length n)>250)
  ·obtain⟨s1,s2,s3,s4,s5⟩:=Zsn n 0 (by omega);have s1:Ze6 n 0=true:=s1;have s3:(ZC n 0).1.2.2.2.2.2.2.length<=200:=s3;have s5:(ZC n 0).1=(ZbX (n,0)).1:=s5;obtain⟨p1,p2⟩:=Zpc w 6 (by omega) (by omega);obtain⟨q,hq⟩:∃q,Zg5 w 6=q:=⟨_,rfl⟩;have hq6:0<=q/\q<=5:=by rw[<-hq,p2];omega
   obtain⟨i1,i2,i3,i4⟩:=ZWC;obtain⟨c,hc⟩:∃c:BRDT,((ZC n 0).1.1,[(0,65535,true,q)],q,(ZC n 0).1.2.2.2)=c:=⟨_,rfl⟩;have hvi:vldB (ZC n 0).1.2.2.2.2.2.2=true:=by rw[s5];obtain⟨_,_,_,_,_,l,_,hi⟩:=Zg4 (Zpy n) (by omega);rw[hi];exact ZfF.2 (Zep l)
   have hn:=ZPE n (ZC n 0).1 s5 q q ⟨by omega,by omega⟩ ⟨by omega,by omega⟩ c (by rw[<-hc];exact⟨rfl,rfl,rfl,hvi,by show (ZC n 0).1.2.2.2.2.2.2.length<=_;omega⟩);have h1:c.2.1=allR q:=by rw[<-hc];rfl
   have h2:c.2.2.1=q:=by rw[<-hc]
   have hroom:Zik c ZOZ=true:=by simp only[Zik,Yc,YD];exact⟨by rw[h1];exact smGb (by simp[allR]),by rw[<-hc];show (ZC n 0).1.2.2.2.2.2.2.length<=_;omega,by show ZOZ.length<=4000;decide⟩
   have hr:=ZKj c q hq6 h1 h2 hn (List.replicate 80 Zl) (by simp) (λi hi=>by rw[List.eq_of_mem_replicate hi];exact⟨rfl,rfl⟩);have e0:(ZbL c (List.replicate 80 Zl)).2=0:=by rw[ZiZ c _ hn]
   have hlen:(ZbL c (List.replicate 80 Zl)).1.2.1.length<=1000:=(ZfM c (List.replicate 80 Zl) (by rw[h1];exact smGb (by simp[allR])) (by rw[<-hc];show (ZC n 0).1.2.2.2.2.2.2.length<=_;omega) (by simp)).2.1;have hW:∃rr:RUNT,runW c (List.replicate 80 Zl)=(rr,0)/\rr.2.1.length<=1000/\(rr.2.1=[]\/∃L z,rr.2.1=L++[z]/\∀y∈L,y.1=1->y.2.2.1=ZlB q y.2.1.1):=by
    unfold runW;split
    ·rename_i hin;refine⟨(ZbL c (List.replicate 80 Zl)).1,by rw[<-e0],hlen,?_⟩;rcases hr with h|⟨L,z,h,g⟩
     ·exact .inl h
     ·exact .inr ⟨L,z,h,λy hy h1=>g y hy h1 (hin y (by rw[h];simp[hy]))⟩
    ·exact⟨_,rfl,by simp,.inl rfl⟩
   obtain⟨rr,hR,hRl,hRi⟩:=hW;have hloop:=ZiW (fl:=true) ZfX (λi=>(false,q,rr.2.1,iN rr.2.1.length,i,c,rr,List.replicate 80 Zl,())) (λa=>a.2.2.2.2.1) rr.2.1.length (λ_=>rfl)
    (λi hi=>by
     obtain⟨k1,k2,k3⟩:=ZyM hi (by omega);rcases hRi with h|⟨L,z,h,g⟩
     ·rw[h] at hi;simp at hi
     ·have hll:rr.2.1.length=L.length+1:=by rw[h];simp
      by_cases hlast:i=L.length
      ·have e1:((i:Int)==IntKind.wrap .i64 (iN rr.2.1.length-1))=true:=by rw[hll,hlast];simp only[iN,Le,Yaj];rw[wrap_i64 _ (by omega) (by omega)];omega
       simp only[ZfX,RT.val,k1,k2,k3,e1,Yk,Ya]
      ·have hiL:i<L.length:=by omega
       have e1:R.get ZhT rr.2.1 (i:Int)=L[i]:=by rw[h,ZeB _ _ _ hiL];simp[R.get,hiL]
       have e2:=g L[i] (YaX hiL);cases hk:L[i].1 !=1
       ·have hk1:L[i].1=1:=by simpa using hk
        have e3:(L[i].2.2.1 !=bif !Zh L[i].2.1.1||(L[i].2.1.1==8||L[i].2.1.1==9) then 0 else q)=false:=by rw[e2 hk1];unfold ZlB;simp
        simp only[ZfX,RT.val,k1,k2,k3,e1,e3,hk,Yh,Ya,Yb];cases (i:Int)==IntKind.wrap .i64 (iN rr.2.1.length-1)<;>rfl
       ·simp only[ZfX,RT.val,k1,k2,k3,e1,hk,Yt,Ya])
    (by simp only[ZfX,RT.val,ZyZ,Yb]) (by omega)
   simp only[Zrs,RT.val,hx,s1,p1,hq,hc,i1,i2,i3,i4,hroom,dec80,hR,hloop,ZjO.1,ZjO.2,okB,getO,Zb6,Zbe,Yai,Yk,Yt,Yf,Ym,Yae,Yz,Yh,YZ,Ya,Yb]
  ·simp only[Zrs,RT.val,hx,ZjO.1,Yf,Yh,Ya]
 exact⟨by simp only[ZOc,hv];rfl,by simp only[ZRU,hv,getO]⟩
abbrev ZOd:List Sh:=[So (R.sl Kc),So Kb,So Ka,So Ka]
def ZRW:LS:={n:=139,Sl:=[(1,.code (So Kb)),(2,.code (So Ka)),(8,.code (So R.bool)),(11,.code (So Ka)),(12,.fix (A.loc 1 0)),(14,.code (So Kc)),(60,.code (So (R.sl Zei))),(61,.code (So Kc)),(62,.code (So Kc))],Bx:=[[.code Kc,.code rcRG,.code Kc,.code Ka,.code Ka,.code (R.bool),.tip 0],[.many (R.Pq (R.sl Zgo) (R.Pq (R.sl ZhT) (R.Pq (R.sl Zei) (R.Pq (R.sl Z8) (R.Pq (R.Pq Z8 (R.Pq Kc (R.Pq (R.sl Ka) (R.Pq (RY) (R.Pq Kc R.bool))))) (R.Pq rcCE (R.Pq Zb3 (R.Pq (R.Pq Kb (R.Pq Ka Kc)) (R.Pq Kc (R.sl (R.Pq Ka Ka)))))))))))]],Sg:=[⟨R.Pq Kb Ka,75,true⟩,⟨R.Pq R.bool (R.Pq R.bool (R.Pq R.bool (R.Pq R.bool (R.Pq R.bool (R.Pq R.bool (R.Pq R.bool (R.Pq R.bool (R.Pq Ka Ka)))))))),122,true⟩]}
def ZfY (a:QT13):RT (Option (Go1 (QT13))):=
 let x1:=Zg a.2.2.2.2.2.2.2.1 (Le a.2.2.2.2.2.1)
 let x2:EVTT:=R.get Zei a.2.2.2.2.2.1 a.2.2.2.2.2.2.2.1
 let x3:=x2.1==5
 let x4:=x2.2.2.2.2.2.2.2.2
 let x5:= !(x4.1==u16.wrap (a.1+u16.wrap a.2.2.2.2.1)&&(x4.2==a.2.1&&true))
 let x6:=a.2.2.2.2.2.2.2.2.2.2.2.2.2
 let x7:=x6.2
 let x8:=x7.1
 let x9:=x8.2.2.2.2.2.1
 let x10:=x7.2
 let x11:QT21:=(a.2.2.2.2.2.2.2.2.1,a.2.2.2.2.2.2.2.2.2.1,a.2.2.2.2.2.2.2.2.2.2.1,a.2.2.2.2.2.2.2.2.2.2.2.1,a.2.2.2.2.2.2.2.2.2.2.2.2.1,x6.1,x8,x10.1,x10.2.1,PUnit.unit)
 let x12:Int×Int×List EVTT×Int×Int×Int×List (Int×Int×Bool×Int)×Int×Int×Int×Bool×RUNT×List (Int×Int)×List INPT×PUnit:=(a.2.2.2.1,a.2.2.2.2.1,a.2.2.2.2.2.1,a.2.2.2.2.2.2.1,a.2.2.2.2.2.2.2.1,x11)
 let x13:List EVTT×Int×Int×Int×List (QT7)×Int×Int×Int×Bool×RUNT×List (Int×Int)×List INPT×PUnit:=(a.2.2.2.2.2.1,a.2.2.2.2.2.2.1,i64.wrap (a.2.2.2.2.2.2.2.1+1),x11)
 .br (decide (a.2.2.2.2.2.2.2.1<a.2.2.2.2.2.2.1)) (.br (!x1||(!x3||(x5||smC x9))) (.br (x1) (.br (x3) (.br (x5||Cells.getX x9 (u16.wrap (a.1+u16.wrap a.2.2.2.2.1)) !=a.2.1&&decide (i64.wrap (i64.wrap a.1+a.2.2.2.2.1)<65536)) (Ls (Go1.ret (a.1,a.2.1,false,x12))) (Ls (Go1.cont (a.1,a.2.1,a.2.2.1,a.2.2.2.1,i64.wrap (a.2.2.2.2.1+1),x13)))) (Ls (Go1.cont (a.1,a.2.1,a.2.2.1,a.2.2.2.1,a.2.2.2.2.1,x13)))) Ln) Ln) (Ls (Go1.brk (a.1,a.2.1,a.2.2.1,x12)))
def ZFK:Ora:=Zbi true ZRW ZfY (λa=>1000000000000)
theorem ZIu:ZaM (envX Tryz.prog [(23,ZpZ),(45,ZCy),(46,Ziy),(56,ZfD),(57,Zrv),(59,Zhx),(60,ZsQ)] [] 1048575 8) (.block 0 (.loop (Z5 Tryz.f11.body 0))) ZFK:=
 loopP ⟨Zhk,ZkP,Zfv,Zd2,ZjP,Zfm,Zng,Tv⟩
def ZRV:LS:={n:=139,Sl:=[(11,.code (So Ka)),(12,.fix (A.loc 1 0)),(14,.code (So Kc)),(17,.code (So Kc)),(101,.code (So (R.sl Zgo))),(102,.code (So Kc)),(103,.code (So Kc))],Bx:=[[.code (.int i64),.code (.sl (R.Pq Kb (R.Pq Kb (R.Pq R.bool Kc)))),.code (.int i64),.code (.int u8),.code (.int u8),.code .bool,.tip 0],[.many (R.Pq (R.sl Zgo) (R.Pq (R.sl ZhT) (R.Pq (R.sl Zei) (R.Pq (R.sl Z8) (R.Pq (R.Pq Z8 (R.Pq Kc (R.Pq (R.sl Ka) (R.Pq (RY) (R.Pq Kc R.bool))))) (R.Pq rcCE (R.Pq Zb3 (R.Pq (R.Pq Kb (R.Pq Ka Kc)) (R.Pq Kc (R.sl (R.Pq Ka Ka)))))))))))]],Sg:=[⟨R.Pq Kb Ka,75,true⟩,⟨R.Pq R.bool (R.Pq R.bool (R.Pq R.bool (R.Pq R.bool (R.Pq R.bool (R.Pq R.bool (R.Pq R.bool (R.Pq R.bool (R.Pq Ka Ka)))))))),122,true⟩]}
def ZhH (a:QT10):RT (Option (Go1 (QT10))):=
 let x1:=a.2.2.2.2.2.2.2.2.2.2.2.2.2
 let x2:QT21:=(a.2.2.2.2.2.2.1,a.2.2.2.2.2.2.2.1,a.2.2.2.2.2.2.2.2.1,a.2.2.2.2.2.2.2.2.2.1,a.2.2.2.2.2.2.2.2.2.2.1,a.2.2.2.2.2.2.2.2.2.2.2.1,a.2.2.2.2.2.2.2.2.2.2.2.2.1,x1.1,x1.2.1,PUnit.unit)
 .br (decide (a.2.2.2.2.2.1<a.2.2.2.2.1)) (.br (Zg a.2.2.2.2.2.1 (Le a.2.2.2.1)) (Ls (Go1.cont (a.1,a.2.1,bif (R.get Zgo a.2.2.2.1 a.2.2.2.2.2.1).2.2.2.2.2.2.2.2.2.2.2.2.2.2.2.1 then i64.wrap (a.2.2.1+1) else a.2.2.1,a.2.2.2.1,a.2.2.2.2.1,i64.wrap (a.2.2.2.2.2.1+1),x2))) Ln) (Ls (Go1.brk (a.1,a.2.1,a.2.2.1,a.2.2.2.1,a.2.2.2.2.1,a.2.2.2.2.2.1,x2)))
def ZFJ:Ora:=Zbi false ZRV ZhH (λa=>1000000000000)
theorem ZIt:ZaM (envX Tryz.prog [(23,ZpZ),(45,ZCy),(46,Ziy),(56,ZfD),(57,Zrv),(59,Zhx),(60,ZsQ)] [] 1048575 8) (.block 2 (.loop (Z5 Tryz.f11.body 2))) ZFJ:=
 loopP ⟨Zhk,ZkP,Zfv,Zd2,ZjP,Zfm,Zng,Tv⟩
def Zrt (n:List Int) (t:Int) (v:Int) (k:Int):RT (Option (Bool)):=
 let x1:List Int:=[62,u8.wrap (orI u16 t 16384),211,4,62,u8.wrap (shrI u16 (orI u16 t 16384) 8),211,5,62,v,211,6,62,u8.wrap (Int.tmod k 20+1),211,7,118]
 let x2:List (Int×Int):=Stg.l (newG ZcO Zr3 (Zfu 0 x1))
 let x3:BRDT:=((ZC n 0).1.1,[(0,65535,true,0)],(ZC n 0).1.2.2.1,0,4,false,x2)
 let x4:=ZbL x3 (decX (ZcH (Stg.l (newG Zdh Zdi (ZhU 160)))))
 let x5:=x4.1
 let x6:=x5.2.2.1
 let x7:QT13:=(orI u16 t 16384,v,false,u8.wrap (Int.tmod k 20+1),0,x6,iN (Le x6),0,(ZC n 0).1.1,[(0,65535,true,0)],(ZC n 0).1.2.2.1,0,4,false,x5,x2,Stg.l (newG Zdh Zdi (ZhU 160)),())
 let x8:=runF true ZfY (λa=>1000000000000) x7
 let x9:=getO (false,x7) x8
 let x10:=x9.2.2.2
 let x11:=x10.2
 let x12:=x11.2
 let x13:=x12.2.2.2.2
 let x14:=x13.2
 let x15:=x14.2
 let x16:=x15.2
 let x17:=x16.2
 let x18:=x17.2
 let x19:=x18.2
 let x20:=x19.1
 let x21:=x20.1
 let x22:=x19.2
 let x23:QT10:=(x11.1,x12.1,0,x21,iN (Le x21),0,x13.1,x14.1,x15.1,x16.1,x17.1,x18.1,x20,x22.1,x22.2.1,())
 let x24:=runF false ZhH (λa=>1000000000000) x23
 let x25:QT10:=(getO (false,x23) x24).2
 let x26:=x25.2
 let x27:=x26.1
 let x28:=x27==i64.wrap x25.1
 let x29:=x26.2
 let x30:=x29.1==i64.wrap (x27+1)
 let x31:=x29.2.2.2.2.2.2.2.2.2.2.1.2.2.2.2
 let x32:=x31.2.2.2.1.2.2==0
 let x33:=x31.1.1.2.2.2.2.1
 let p1:=(!x33)::(!x32)::(!x30)::(!x28)::[]
 .br (!decide (iN (Le n)>120)||ZyE) (.br (decide (iN (Le n)>120)) (Ls (true)) (.br (Ze6 n 0) (.br (smB x1) (.br (!Zgl 160||(!ZcE (Stg.l (newG Zdh Zdi (ZhU 160)))||Zik x3 (ZcH (Stg.l (newG Zdh Zdi (ZhU 160)))))) (.br (!Zgl 160||ZcE (Stg.l (newG Zdh Zdi (ZhU 160)))) (.br (Zgl 160) (.br (x4.2 !=0) (Ls (false)) (.br (okB x8) (.br x9.1 (Ls x10.1) (.br (okB x24) (.br (orR p1 ZyE) (Ls (x28&&(x30&&(x32&&(x33&&kKn5))))) Ln) Ln)) Ln)) Ln) Ln) Ln) Ln) Ln)) Ln
def ZWt (n:List Int) (t:Int) (v:Int) (k:Int):Bool:=getO ZnX.Df (Zrt n t v k).val
def ZOe (n:List Int) (t:Int) (v:Int) (k:Int):Bool:=okB (Zrt n t v k).val
def ZYv:En:=Zi ZOd ZnX (λa=>some (ZOe a.1 a.2.1 a.2.2.1 a.2.2.2)) (λa=>ZWt a.1 a.2.1 a.2.2.1 a.2.2.2)
theorem lBTra_ok:Zb Tryz.prog 11 ZYv:=
 pureP 1048575 [(23,ZpZ),(45,ZCy),(46,Ziy),(56,ZfD),(57,Zrv),(59,Zhx),(60,ZsQ)] [(0,ZFK),(2,ZFJ)] _ _ ⟨Zhk,ZkP,Zfv,Zd2,ZjP,Zfm,Zng,Tv⟩ Tryz.func11 Tryz.call11 ⟨ZIu,ZIt,Tv⟩
def rdK (k:Int):Bool:=k==1||(k==2||k==4)
def Cons (g:List GT):List Cell->List TY->Prop
 |_,[]=>True
 |m,x::l=>(rdK x.1=true->x.2.2.1=ZeS g m x.2.1)/\Cons g (wrY g m x) l
theorem ZGa (g:List GT):∀(l r:List TY) (m:List Cell),Cons g m (l++r)↔Cons g m l/\Cons g (wrL g m l) r
 |[],r,m=>by simp[Cons,wrL]
 |x::l,r,m=>by have:=ZGa g l r (wrY g m x);simp only[List.cons_append,Cons,this,and_assoc];exact Iff.rfl
def datL (l:List TY):List Int:=l.map λx=>x.2.2.1
def DatC (s0:TC) (c:CORT) (ev:List EVTT):Prop:=c.2.2.1=datL (cyX (Zy (Za0 s0 ev) c.2.1) c.2.1 [] c.2.2.1)
def ZTW (c:TC) (e:EVTT):Prop:=Zvj e.1=true->e.1=ZhS e.2.1/\e.2.2.1=datL (Zga c e)/\(Zj (Zy c e.2.1) e.2.1 e.2.2.1).2=false
def EvOk (s0:TC) (ev:List EVTT):Prop:=∀l1 e l2,ev=l1++e::l2->ZTW (Za0 s0 l1) e
theorem EvOk.snoc (h:EvOk s0 ev) {e:EVTT} (he:ZTW (Za0 s0 ev) e):EvOk s0 (ev++[e]):=by
 intro l1 e' l2 hq;rcases Y2 l2 with rfl|⟨l3,y,rfl⟩
 ·obtain⟨q1,q2⟩:=Yak hq rfl;simp only[Yaz,and_true] at q2;subst q1;subst q2;exact he
 ·rw[Y0,<-List.cons_append,<-List.append_assoc] at hq;obtain⟨q1,_⟩:=Yak hq rfl;exact h l1 e' l3 q1
theorem EvOk.left {a t:List EVTT} (h:EvOk s0 (a++t)):EvOk s0 a:=λl1 e l2 hq=>h l1 e (l2++t) (by rw[hq];simp)
structure Good (g:List GT) (m0:List Cell) (s0:TC) (ev:List EVTT):Prop where
 ok:EvOk s0 ev
 co:Cons g m0 (cyA s0 ev)
theorem ZF9:∀(a t:List EVTT) (c:TC),cyA c (a++t)=cyA c a++cyA (Za0 c a) t
 |[],t,c=>rfl
 |e::a,t,c=>by have:=ZF9 a t (Zdz c e);simp only[List.cons_append,cyA,this,Yl];rfl
theorem Good.left {g:List GT} {m0:List Cell} {s0:TC} {a t:List EVTT} (h:Good g m0 s0 (a++t)):Good g m0 s0 a:=
 ⟨h.ok.left,((ZGa g _ _ m0).1 (by rw[<-ZF9];exact h.co)).1⟩
structure Sq (b:BRDT) (m0:List Cell) (s0:TC) (st:STT):Prop where
 mem:st.1.2.1=wrL b.2.1 m0 (cyI st.2.2.1)
 co:Cons b.2.1 m0 (cyI st.2.2.1)
 dat:DatC s0 st.1.1 st.2.2.2.1
 ok:EvOk s0 st.2.2.2.1
