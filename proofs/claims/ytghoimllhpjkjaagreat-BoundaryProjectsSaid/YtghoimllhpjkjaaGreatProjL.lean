import Derived.Test.YtghoimllhpjkjaaGreatS3D
import Derived.Test.YtghoimllhpjkjaaGreatProg
import Derived.Test.YtghoimllhpjkjaaGreatBndM
set_option linter.unusedSimpArgs false
open Go Go.S3 Go.Proofs
set_option linter.unusedVariables false
set_option maxRecDepth 100000
namespace Go.Proofs.YtghoimllhpjkjaaGreat
noncomputable section
abbrev Z1g:List Sh:=[]
abbrev ZZz:Rs:=Rs.one (Sh.one R.bool)
def kKbT:RT (Option (Bool)):=
 let x1:LINT×Bool×Bool×Bool×Bool×Int×Int:=((false,false,false,false,false,false,false,false,false),false,false,false,false,0,0)
 let x2:List EVTT:=[(1,0,[62,7],x1),(1,0,[50,5,0,7],x1),(4,0,[],x1)]
 let x3:TC:=(1,(0,0,0,0,0,0,0,(false,false,false,false,false,false,false),0,0),false,false,false,0,false,false,false,false,false,false,false)
 let x4:=ZdI x3 x2
 let x5:Nat:=List.length x4
 let x6:= !iN x5==3
 let x7:=Zf 1 x5
 let x8:=x6||x7
 let x9:= !x8
 let x10:TR:=(R.get Zx x4 1).2.1
 let x11:= !x10.1==7
 let x12:=x6||(x11||x7)
 let x13:= !x12
 let x14:= !x10.2.2.2.2.2.2.2.2.2==5
 let x15:=x6||(x11||(x14||Zf 2 x5))
 let p1:=(!(R.get Zx x4 2).2.1.2.2.2.2.2.2.2.2.2==0)::x14::x11::x6::(!x15)::x13::x9::[]
 .br (Ziz x2) (.br (ZTe [(0,65535,true,0)] [] x2) (.br (orR p1 (smC (memX x3 [(0,65535,true,0)] [] x2))) (.br (x9||(x13||x15)) (.br (x9||x12) (.br (x8) (.leaf (some (true))) (.leaf none)) (.leaf none)) (.leaf none)) (.leaf none)) (.leaf none)) (.leaf none)
def kKb:Bool:=getO ZZz.dflt (kKbT).val
def kKbC:Bool:=okB (kKbT).val
def kKbE:Entry:=Zg Z1g ZZz (λa=>some (kKbC)) (λa=>kKb)
theorem ZRo:Za Tryz.prog 45 kKbE:=
 pureP 31 [(39,ZFt),(56,ZgN),(58,Zzx)] [] Z1g ZZz ⟨ZIl,ZfK,ZD5,Tv⟩ Tryz.func45 Tryz.call45 trivial (t:=λa=>kKbT)
end
end Go.Proofs.YtghoimllhpjkjaaGreat
open Go Go.S3 Go.Proofs Go.Proofs.Cells
namespace Go.Proofs.YtghoimllhpjkjaaGreat
noncomputable section
theorem lvalB {t:RT (Option Bool)} (h:t.val=some true):okB t.val=true/\getO false t.val=true:=by rw[h];exact⟨rfl,rfl⟩
theorem ZRk:kKbC=true/\kKb=true:=lvalB (t:=kKbT) (by kernel_rfl)
theorem ZsJ {α:Type} {l:List α} (h:l.length<=1000000):Ziz l=true:=Zav h
theorem Zbu (e:EVTT) (c:TC) (l:LINT):Zfg e c l=(e.1,e.2.1,e.2.2.1,l,c.2.2.2.2.2.2.2.1,c.2.2.2.2.2.2.1,c.2.2.2.2.2.2.2.2.2.1,c.2.2.2.2.2.2.2.2.1,e.2.2.2.2.2.2.2.2):=rfl
def EvB (ev:List EVTT) (n:Nat):Prop:=∀e∈ev,e.2.2.1.length<=n
theorem EvB.app {ev:List EVTT} {n:Nat} (h:EvB ev n) {e:EVTT} (he:e.2.2.1.length<=n):EvB (ev++[e]) n:=λx hx=>by
 rcases List.mem_append.1 hx with hx|hx
 ·exact h x hx
 ·rw[List.mem_singleton] at hx;subst hx;exact he
theorem EvB.mono {ev:List EVTT} {n m:Nat} (h:EvB ev n) (hn:n<=m):EvB ev m:=λe he=>Nat.le_trans (h e he) hn
theorem ZK3 (c:CORT) (t d:Int):(ZeF c t d).length<=c.2.2.1.length+1:=by
 unfold ZeF
 cases t==3<;>simp
theorem evE_b {ev:List EVTT} {n:Nat} (h:EvB ev n) (c:CORT) (hc:c.2.2.1.length<=n) (l:LINT) (d:Int) (cell:Cell) (moved:Bool):EvB (evE ev c l d cell moved) (n+1):=by
 have h1:=h.mono (Nat.le_succ n)
 have h2:=ZK3 c (Zae c) d
 have e1:EvB (bif (finS c l d).2 then ev++[Zfg (Zk8 c.2.1,c.2.1,ZeF c (Zae c) d,ZfQ,false,false,false,false,0,0) (Zm c.1 l) l] else ev) (n+1):=by
  cases (finS c l d).2
  ·exact h1
  ·exact h1.app (by rw[Zbu];show (ZeF c (Zae c) d).length<=_;omega)
 have e2:EvB (bif Zdq c then ev++[Zfg (6,c.2.1,c.2.2.1,ZfQ,false,false,false,false,0,0) c.1 l] else ev) (n+1):=by
  cases Zdq c
  ·exact h1
  ·exact h1.app (by rw[Zbu];show c.2.2.1.length<=_;omega)
 unfold evE
 dsimp only
 cases l.2.2.1
 ·cases moved
  ·exact e1
  ·exact e1.app (Nat.zero_le _)
 ·exact e2.app (by rw[Zbu];exact Nat.zero_le _)
theorem ZW2 (b:BRDT) (Zab:TC):∀(l:List INPT) (st:STT) (n:Nat),RunOk b st n->EvB st.2.2.2.1 n->EvB (Zbk b Zab st l).2.2.2.1 (n+l.length)
 |[],st,n,h,he=>he
 |i::l,st,n,h,he=>by
  have:=ZW2 b Zab l (ZcP b Zab st i) (n+1) (ZFd b Zab st i n h) (evE_b he st.1.1 h.k _ _ _ _)
  rw[show n+(i::l).length=n+1+l.length by simp;omega]
  exact this
theorem wgh_b (l:List EVTT) (n:Nat) (h:EvB l n):wgh l<=l.length*(n+1):=by
 induction l with
 |nil=>exact Nat.zero_le _
 |cons e l ih=>
  have h1:=h e List.mem_cons_self
  have h2:=ih λe he=>h e (List.mem_cons_of_mem _ he)
  simp only[wgh,List.length_cons,Nat.add_mul];omega
theorem Z0p (b:BRDT) (l:List INPT) (hg:smG b.2.1=true) (hm:b.2.2.2.2.2.2.length<=100000) (hl:l.length<=1000):
  (ZcM b l).1.2.2.1.length<=2001/\EvB (ZcM b l).1.2.2.1 1000/\(ZcM b l).1.2.2.2.1.length<=2001:=by
 obtain⟨_,_,h0⟩:=ZzJ b hg hm
 unfold ZcM
 cases hx:(wNew b).2 !=0
 ·have h0:=(h0 (by simpa using hx)).1
  have hf:=ZpG b (Z7 b) l (Zce b) 0 h0
  have hb:=ZW2 b (Z7 b) l (Zce b) 0 h0 (λe he=>by simp[Zce] at he)
  rw[Nat.zero_add] at hf hb
  have h1:=hf.ev
  have h2:=hf.k
  have h3:=hf.cp
  have hb:=hb.mono hl
  show (endS (Z7 b) (Zbk b (Z7 b) (Zce b) l)).2.2.1.length<=2001/\EvB (endS (Z7 b) (Zbk b (Z7 b) (Zce b) l)).2.2.1 1000/\(endS (Z7 b) (Zbk b (Z7 b) (Zce b) l)).2.2.2.1.length<=2001
  unfold endS
  cases Zdq (Zbk b (Z7 b) (Zce b) l).1.1
  ·exact⟨by simp only[cond_false];omega,hb,by simp only[cond_false];omega⟩
  ·refine⟨by simp;omega,hb.app (by show (Zbk b (Z7 b) (Zce b) l).1.1.2.2.1.length<=_;omega),by simp;omega⟩
 ·exact⟨by simp,λe he=>by simp at he,by simp⟩
def brdK (n:List Int) (h:Bool):BRDT:=((Zaj (n,0)).1.1,(Zaj (n,0)).1.2.1,(Zaj (n,0)).1.2.2.1,(Zaj (n,0)).1.2.2.2.1,(bif !h then 240 else (Zaj (n,0)).1.2.2.2.2.1),(Zaj (n,0)).1.2.2.2.2.2)
def scrK (n:List Int):List INPT:=Zbg (Zc0 (Zaj (n,0)).2 90).1
theorem ZXT (n:List Int) (h:Bool):ZHs n h=true/\Zjg n h=(brdK n h,(ZcM (brdK n h) (scrK n)).1)/\smG (brdK n h).2.1=true/\(brdK n h).2.2.2.2.2.2.length<=200/\(scrK n).length<=90/\((brdK n h).1=1\/(brdK n h).1=2):=by
 obtain⟨c1,b1,⟨s1,bs1,hr⟩,hch,_,l,hl,hi⟩:=ZQZ (ZZO n) (by omega)
 obtain⟨c2,_,l2⟩:=ZQP bs1 (by omega)
 obtain⟨c3,b3,l3,_⟩:=ZKB b1 (by omega) 90 (by omega)
 have hg:smG (brdK n h).2.1=true:=by
  show smG (Zaj (n,0)).1.2.1=true
  rw[hr];exact smGb (by omega)
 have hm:(brdK n h).2.2.2.2.2.2.length<=200:=by
  show (Zaj (n,0)).1.2.2.2.2.2.2.length<=200
  rw[hi];exact Nat.le_trans (Zdj l) hl
 have hd:=(Zqp (Zc0 (Zaj (n,0)).2 90).1 (by have:(Zc0 (Zaj (n,0)).2 90).1.length<=4*90:=l3;omega)).2
 have hsl:(scrK n).length<=90:=by
  unfold scrK
  rw[hd]
  have:(Zc0 (Zaj (n,0)).2 90).1.length<=4*90:=l3
  omega
 obtain⟨w1,w2⟩:=ZXh (brdK n h) (Zc0 (Zaj (n,0)).2 90).1 hg (by omega) (by have:(Zc0 (Zaj (n,0)).2 90).1.length<=4*90:=l3;omega)
 have c3':Zg9 (Zaj (n,0)).2 90=true:=c3
 have hv:(Zy3 n h).val=some (brdK n h,(ZcM (brdK n h) (scrK n)).1):=by
  have e:((Zaj (n,0)).1.1,(Zaj (n,0)).1.2.1,(Zaj (n,0)).1.2.2.1,(Zaj (n,0)).1.2.2.2.1,(bif !h then 240 else (Zaj (n,0)).1.2.2.2.2.1),(Zaj (n,0)).1.2.2.2.2.2)=brdK n h:=rfl
  simp only[Zy3,RT.val,c1,c3',e,w1,w2,Bool.or_true,cond_true]
  rfl
 exact⟨by simp only[ZHs,hv];rfl,by simp only[Zjg,hv,getO],hg,hm,hsl,hch⟩
end
end Go.Proofs.YtghoimllhpjkjaaGreat
open Go.IntKind (u8 u16 i64)
namespace Go.Proofs.YtghoimllhpjkjaaGreat
noncomputable section
def cyA:TC->List EVTT->List TY
 |_,[]=>[]
 |c,e::l=>Za8 c e++cyA (ZaZ c e) l
theorem Ze5 (c:TC) (l:List EVTT) (e:EVTT):ZaH c (l++[e])=ZaZ (ZaH c l) e:=by unfold ZaH;rw[List.foldl_append];rfl
theorem Zh6:∀(l:List EVTT) (c:TC) (e:EVTT),cyA c (l++[e])=cyA c l++Za8 (ZaH c l) e
 |[],c,e=>by simp[cyA,ZaH]
 |x::l,c,e=>by
  have:=Zh6 l (ZaZ c x) e
  simp only[List.cons_append,cyA,this,List.append_assoc]
  rfl
theorem Zd4:∀(l:List EVTT) (c:TC) (e:EVTT),ZdI c (l++[e])=ZdI c l++[ZaZ (ZaH c l) e]
 |[],c,e=>rfl
 |x::l,c,e=>by
  have:=Zd4 l (ZaZ c x) e
  simp only[List.cons_append,ZdI,this]
  rfl
theorem Zkj (c:TC) (l:List EVTT):Zpp c (ZdI c l)=ZaH c l:=by
 rcases List.eq_nil_or_concat l with rfl|⟨l',e,rfl⟩
 ·rfl
 ·rw[List.concat_eq_append,Zd4,Ze5];simp[Zpp]
def cyI (l:List ITMT):List TY:=(l.filter λy=>y.1==1&&decide (y.2.2.2.1>=3)).map λy=>y.2.1
theorem Zeo (l:List ITMT) (y:ITMT):cyI (l++[y])=cyI l++(bif y.1==1&&decide (y.2.2.2.1>=3) then [y.2.1] else []):=by
 unfold cyI
 rw[List.filter_append,List.map_append]
 cases h:y.1==1&&decide (y.2.2.2.1>=3)<;>simp[List.filter,h]
def unl (c:TC):Int×(Int×Int×Int×Int×Int×Int×Int×(Bool×Bool×Bool×Bool×Bool×Bool×Bool)×Int×Int)×Bool×Bool×Bool×Int×Bool×Bool×Bool:=(c.1,c.2.1,c.2.2.1,c.2.2.2.1,c.2.2.2.2.1,c.2.2.2.2.2.1,c.2.2.2.2.2.2.2.2.2.2)
theorem ZMj (c:TC) (l:LINT):unl (Zm c l)=unl c:=by
 unfold Zm ZBA
 simp only[RT.val]
 cases !rOn c.1<;>rfl
theorem ZVl (c:TC):Zu c 0=c:=rfl
theorem ZXB {a b:TC} (h:unl a=unl b) (s:Int):unl (Zu a s)=unl (Zu b s):=by
 unfold Zu Zg6
 simp only[RT.val]
 cases decide (s<1)||decide (s>5)
 ·simp only[unl,pinj] at h|-
  obtain⟨h1,h2,h3,h4,h5,h6,h7⟩:=h
  simp only[h1,h2,h3,h4,h5,h6,h7,and_self]
  simp only[cond_false,unl,h1,h2,h3,h4,h5,h6,h7,and_self]
 ·exact h
theorem ZNq {a b:TC} (h1:a.1=b.1) (h2:a.2.1=b.2.1):ZO a=ZO b:=by
 unfold ZO ZjX
 simp only[RT.val,h1,h2]
theorem ZSo (c:TC) (s:Int):(Zu c s).1=c.1/\(Zu c s).2.1=c.2.1:=by
 unfold Zu Zg6
 simp only[RT.val]
 cases decide (s<1)||decide (s>5)<;>exact⟨rfl,rfl⟩
theorem Zso {a b:TC} (h:unl a=unl b):a.1=b.1/\a.2.1=b.2.1:=by
 simp only[unl,pinj] at h
 exact⟨h.1,h.2.1⟩
theorem ZVf {a b:TC} (h1:a.1=b.1) (h2:a.2.1=b.2.1) (inj:Bool) (g:List Int) (i:InsT):Zh8 a inj g i=Zh8 b inj g i:=by
 unfold Zh8 Zcx Zbn opC ZcC popX ZL Zet Zhr Zfb pcOf spOf
 simp only[h1,h2]
theorem ZG1 {a b:TC} (h:unl a=unl b) (s:Int) (g:List Int):Zl a s g=Zl b s g:=by
 obtain⟨h1,h2⟩:=Zso h
 have hp:Zgs a s g=Zgs b s g:=by
  unfold Zgs pcOf ZcC spOf
  simp only[h1,h2]
  cases Zc s
  ·cases g with
   |nil=>rfl
   |cons o g=>simp only[cond_false,ZVf h1 h2]
  ·rfl
 unfold Zl
 rw[hp]
theorem ZlJ (c:TC) (s:Int):(Zl c s []).2=true:=by
 unfold Zl Zgs pick
 cases Zc s<;>rfl
theorem ZDJ {p q:TC} (h:unl p=unl q) (e:EVTT) (he:e.2.2.2.2.1=q.2.2.2.2.2.2.2.1/\e.2.2.2.2.2.1=q.2.2.2.2.2.2.1/\e.2.2.2.2.2.2.1=q.2.2.2.2.2.2.2.2.2.1/\e.2.2.2.2.2.2.2.1=q.2.2.2.2.2.2.2.2.1):ZGu p e=q:=by
 obtain⟨e1,e2,e3,e4⟩:=he
 simp only[unl,pinj] at h
 obtain⟨h1,h2,h3,h4,h5,h6,h7⟩:=h
 unfold ZGu
 rw[e1,e2,e3,e4,h1,h2,h3,h4,h5,h6,h7]
theorem ZR4 (c:TC) (s:Int):∀(r g:List Int) (b:Int),(cyX c s g r).length=r.length->(Zl c s (g++r)).2=true->cyX c s g (r++[b])=cyX c s g r++[Zrp c (Zl c s (g++r)).1 b]/\(cyX c s g (r++[b])).length=(r++[b]).length
 |[],g,b,_,h=>by
  rw[List.append_nil] at h|-
  simp only[List.nil_append,cyX,h,cond_true,List.length_cons,List.length_nil,and_self]
 |x::r,g,b,hl,h=>by
  simp only[List.cons_append,cyX] at hl|-
  cases hn:(Zl c s g).2
  ·rw[hn] at hl;simp at hl
  ·rw[hn] at hl
   simp only[cond_true,List.length_cons] at hl|-
   have h':(Zl c s (g++[x]++r)).2=true:=by rw[List.append_assoc];exact h
   obtain⟨q1,q2⟩:=ZR4 c s r (g++[x]) b (by omega) h'
   rw[q1] at q2|-
   rw[List.append_assoc] at q2|-
   exact⟨rfl,by simpa using q2⟩
structure Sem (s0:TC) (c:CORT) (ev:List EVTT) (cp:List TC) (it:List ITMT):Prop where
 hcp:cp=ZdI s0 ev
 un:unl c.1=unl (Zu (ZaH s0 ev) c.2.1)
 nx:1<=c.2.2.2.2.1/\c.2.2.2.2.1<=9
 rest:c.2.1=0->c.1.2.2.2.2.1=true->(c.2.2.2.2.1=8\/c.2.2.2.2.1=9)/\c.2.2.1=[]
 nine:c.2.2.2.2.1=9->c.2.1=0/\c.1.2.2.2.2.1=true
 cy:(c.2.2.2.2.1<4\/6<c.2.2.2.2.1)->c.2.2.2.1=(Zl c.1 c.2.1 c.2.2.1).1/\(Zl c.1 c.2.1 c.2.2.1).2=true
 hit:cyI it=cyA s0 ev++cyX (Zu (ZaH s0 ev) c.2.1) c.2.1 [] c.2.2.1
 ln:(cyX (Zu (ZaH s0 ev) c.2.1) c.2.1 [] c.2.2.1).length=c.2.2.1.length
 pt:(c.2.2.2.2.1=2\/c.2.2.2.2.1=3\/c.2.2.2.2.1=7)->∃(l:List ITMT) (y:ITMT),it=l++[y]/\y.1=1/\y.2.2.2.1=(bif c.2.2.2.2.1==2 then 1 else 2)
 ps:4<=c.2.2.2.2.1->c.2.2.2.2.1<=6->∃(l:List ITMT) (y:ITMT),it=l++[y]/\y.1=1/\y.2.2.2.1=c.2.2.2.2.1-1/\y.2.1=c.2.2.2.1
theorem ZXA {a b:TC} (h:unl a=unl b):a.2.2.2.2.1=b.2.2.2.2.1:=by
 simp only[unl,pinj] at h
 exact h.2.2.2.2.1
theorem ZpA (c:TC) (s:Int) (h:Bool):(idlX c s h=8\/idlX c s h=9\/idlX c s h=1)/\(idlX c s h=9->s=0/\c.2.2.2.2.1=true)/\(s=0->c.2.2.2.2.1=true->idlX c s h=8\/idlX c s h=9):=by
 unfold idlX
 cases h
 ·cases hh:c.2.2.2.2.1&&s==0
  ·simp only[cond_false]
   refine⟨.inr (.inr trivial),λe=>by omega,λe1 e2=> ?_⟩
   rw[e1,e2] at hh;simp at hh
  ·simp only[cond_true,cond_false]
   simp at hh
   exact⟨.inr (.inl trivial),λ_=>⟨hh.2,hh.1⟩,λ_ _=>.inr trivial⟩
 ·simp only[cond_true]
  exact⟨.inl trivial,λe=>by omega,λ_ _=>.inl trivial⟩
theorem ZS8 {s0:TC} {c:CORT} {ev:List EVTT} {cp:List TC} {it:List ITMT} (h:Sem s0 c ev cp it) (e:EVTT) (h1:ZaZ (ZaH s0 ev) e=ZaH s0 ev) (h2:Za8 (ZaH s0 ev) e=[]):
  Sem s0 c (ev++[e]) (cp++[Zpp s0 cp]) it:=by
 have hl:ZaH s0 (ev++[e])=ZaH s0 ev:=by rw[Ze5,h1]
 refine⟨by rw[h.hcp,Zd4,Zkj,h1],by rw[hl];exact h.un,h.nx,h.rest,h.nine,h.cy,by rw[hl,Zh6,h2,List.append_nil];exact h.hit,by rw[hl];exact h.ln,h.pt,h.ps⟩
theorem Zy2 (s:Int):Zqi (Zk8 s)=true:=by
 unfold Zk8 ZLu Zqi
 simp only[RT.val]
 cases Zc s
 ·cases s==5<;>rfl
 ·rfl
theorem ZM3 {s0:TC} {ev:List EVTT} {cp:List TC} {it:List ITMT} (p:TC) (s:Int) (g:List Int) (h:Bool) (l:LINT) (hcp:cp=ZdI s0 ev) (un:unl p=unl (Zu (ZaH s0 ev) s)) (hh:s=0->p.2.2.2.2.1=true->False)
  (hit:cyI it=cyA s0 ev++cyX (Zu (ZaH s0 ev) s) s [] g) (ln:(cyX (Zu (ZaH s0 ev) s) s [] g).length=g.length):
  Sem s0 (endX p s g h l) (bif (Zl p s g).2 then ev else ev++[Zfg (Zk8 s,s,g,ZfQ,false,false,false,false,0,0) p l]) (bif (Zl p s g).2 then cp else cp++[finX p s g l]) it:=by
 unfold endX
 dsimp only
 cases hn:(Zl p s g).2
 ·simp only[cond_false]
  generalize hq:finX p s g l=q
  generalize ZfU q l=k
  generalize he:Zfg (Zk8 s,s,g,ZfQ,false,false,false,false,0,0) p l=e
  have hpat:ZGu (Zu (ZaH s0 ev) s) e=p:=ZDJ un.symm e (by rw[<-he,Zbu];exact⟨rfl,rfl,rfl,rfl⟩)
  have ha:ZaZ (ZaH s0 ev) e=q:=by
   have e1:e.1=Zk8 s:=by rw[<-he,Zbu]
   have e2:e.2.1=s:=by rw[<-he,Zbu]
   have e3:e.2.2.1=g:=by rw[<-he,Zbu]
   have e4:e.2.2.2.1=l:=by rw[<-he,Zbu]
   unfold ZaZ
   rw[e1,Zy2,e2,hpat,e3,e4]
   exact hq
  have hc:Za8 (ZaH s0 ev) e=cyX (Zu (ZaH s0 ev) s) s [] g:=by
   have e1:e.1=Zk8 s:=by rw[<-he,Zbu]
   have e2:e.2.1=s:=by rw[<-he,Zbu]
   have e3:e.2.2.1=g:=by rw[<-he,Zbu]
   unfold Za8 cycE
   rw[e1,Zy2,e2,e3]
   rfl
  have hl:ZaH s0 (ev++[e])=q:=by rw[Ze5,ha]
  obtain⟨i1,i2,i3⟩:=ZpA (Zu q k) k h
  refine⟨by rw[hcp,Zd4,ha],by rw[hl],?_,λa b=>⟨i3 a b,rfl⟩,i2,λ_=>⟨rfl,ZlJ _ _⟩,?_,by rw[hl];rfl,λe=> ?_,λe1 e2=> ?_⟩
  ·show 1<=idlX (Zu q k) k h/\idlX (Zu q k) k h<=9
   omega
  ·rw[hl,Zh6,hc,hit]
   show _=_++[]
   rw[List.append_nil]
  ·exfalso
   replace e:idlX (Zu q k) k h=2\/idlX (Zu q k) k h=3\/idlX (Zu q k) k h=7:=e
   omega
  ·exfalso
   replace e1:4<=idlX (Zu q k) k h:=e1
   replace e2:idlX (Zu q k) k h<=6:=e2
   omega
 ·simp only[cond_true]
  obtain⟨i1,i2,i3⟩:=ZpA p s h
  refine⟨hcp,un,?_,λa b=>(hh a b).elim,λe=>((hh (i2 e).1 (i2 e).2)).elim,λ_=>⟨rfl,hn⟩,hit,ln,λe=> ?_,λe1 e2=> ?_⟩
  ·show 1<=idlX p s h/\idlX p s h<=9
   omega
  ·exfalso
   replace e:idlX p s h=2\/idlX p s h=3\/idlX p s h=7:=e
   omega
  ·exfalso
   replace e1:4<=idlX p s h:=e1
   replace e2:idlX p s h<=6:=e2
   omega
theorem ZpS {l:List ITMT} {k:Int} {c:CORT} {n:ITMT} (hk:k≠1) (hn:n.1=k):cyI (Zy7 l k c n)=cyI l:=by
 have h1:∀y:ITMT,y.1=k->∀l,cyI (l++[y])=cyI l:=λy hy l=>by
  rw[Zeo]
  have:(y.1==1)=false:=by rw[hy];simpa using hk
  rw[this];simp
 unfold Zy7
 cases hl:l.getLast? with
 |none=>exact h1 n hn l
 |some y=>
  simp only
  obtain⟨l',rfl⟩:∃l',l=l'++[y]:=by
   rcases List.eq_nil_or_concat l with rfl|⟨l',z,rfl⟩
   ·simp at hl
   ·rw[List.concat_eq_append] at hl|-
    simp at hl;subst hl;exact⟨l',rfl⟩
  cases hs:ZM9 y k c
  ·exact h1 n hn _
  ·have hy:y.1=k:=by simp[ZM9] at hs;exact hs.1
   simp only[cond_true,Zct]
   rw[h1 (ZZr y) hy,h1 y hy]
theorem ZHI (c:CORT) (t d:Int) (h:(t==3)=false):ZaB c t d=c.2.2.2.1:=by
 unfold ZaB Zil
 simp only[RT.val,h,cond_false]
theorem cur_3 (c:CORT) (d:Int) (p:TC) (h:p.1=c.1.1):ZaB c 3 d=Zdo p c.2.2.2.1 d:=by
 unfold ZaB Zil Zdo
 rw[h];rfl
theorem ZNv {p q:TC} (h:p.1=q.1) (x:TY) (d:Int):Zdo p x d=Zdo q x d:=by unfold Zdo;rw[h]
theorem ZJu (p a:TC) (h:a.1=p.1) (x:TY) (d:Int):Zrp a x (Zdo p x d).2.2.1=Zdo p x d:=by
 unfold Zrp Zdo
 rw[h]
 cases ZcQ x.1<;>rfl
theorem ZUY (ev:List EVTT) (c:CORT) (l:LINT) (d:Int) (cell:Cell) (hr:l.2.2.1=false):evE ev c l d cell false=bif (finS c l d).2 then ev++[Zfg (Zk8 c.2.1,c.2.1,ZeF c (Zae c) d,ZfQ,false,false,false,false,0,0) (Zm c.1 l) l] else ev:=by
 unfold evE;rw[hr];rfl
theorem ZUZ (cp:List TC) (s0:TC) (c a:CORT) (l:LINT) (d:Int) (hr:l.2.2.1=false):evC cp s0 c a l d false=bif (finS c l d).2 then cp++[(finS c l d).1] else cp:=by
 unfold evC;rw[hr];rfl
theorem itN (y:ITMT) (n:Int) (h:y.2.2.2.1=n) (h1:0<=n) (h2:n<=100):IntKind.wrap .i64 (y.2.2.2.1+1)=n+1:=by
 rw[h,wrap_i64 _ (by omega) (by omega)]
theorem ZS9 {s0:TC} {c:CORT} {ev:List EVTT} {cp:List TC} {it:List ITMT} (h:Sem s0 c ev cp it) (l:LINT) (d:Int) (cell:Cell) (hr:l.2.2.1=false):
  Sem s0 (Zaa c l d) (evE ev c l d cell false) (evC cp s0 c (Zaa c l d) l d false) (Zfx it c (ZaB c (Zae c) d) (Zae c)):=by
 rw[ZUY _ _ _ _ _ hr,ZUZ _ _ _ _ _ _ hr]
 obtain⟨hcp,un,nx,rest,nine,cy,hit,ln,pt,ps⟩:=h
 obtain⟨p0,s,g,x,n,hd⟩:=c
 simp only at un nx rest nine cy hit ln pt ps
 have hst:Zae (p0,s,g,x,n,hd)=n:=by
  have h1:(decide (n<1)||decide (n>9))=false:=by simp;omega
  simp only[Zae,ZAz,RT.val,h1,cond_false]
 have hsx:ZaD n=n:=by
  have h1:(decide (n<1)||decide (n>9))=false:=by simp;omega
  simp only[ZaD,h1,cond_false]
 have hup:=ZMj p0 l
 have hchip:(Zm p0 l).1=p0.1:=(Zso hup).1
 have hun:unl (Zm p0 l)=unl (Zu (ZaH s0 ev) s):=hup.trans un
 have hhl:(Zm p0 l).2.2.2.2.1=p0.2.2.2.2.1:=ZXA hup
 have hnxt:∀g,Zl (Zm p0 l) s g=Zl p0 s g:=λg=>ZG1 hup s g
 rw[hst]
 have hcases:n=1\/n=2\/n=3\/n=4\/n=5\/n=6\/n=7\/n=8\/n=9:=by omega
 have hnf:∀k:Int,n=k->Zj1 k x=false->(k==3)=false->(finS (p0,s,g,x,n,hd) l d).2=false:=λk hk he h3=>by
  unfold finS rdS
  have:(n !=3)=true:=by rw[hk];simpa [bne] using h3
  simp only[hr,this,hk▸he,cond_true,cond_false,Bool.not_false]
 have sem456:∀k:Int,(k=4\/k=5\/k=6)->n=k->Sem s0 (Zaa (p0,s,g,x,n,hd) l d) (bif (finS (p0,s,g,x,n,hd) l d).2 then ev++[Zfg (Zk8 s,s,ZeF (p0,s,g,x,n,hd) n d,ZfQ,false,false,false,false,0,0) (Zm p0 l) l] else ev)
   (bif (finS (p0,s,g,x,n,hd) l d).2 then cp++[(finS (p0,s,g,x,n,hd) l d).1] else cp) (Zfx it (p0,s,g,x,n,hd) (ZaB (p0,s,g,x,n,hd) n d) n):=by
  intro k hk e
  subst e
  obtain⟨l',y,rfl,y1,yN,yc⟩:=ps (by rcases hk with rfl|rfl|rfl<;>decide) (by rcases hk with rfl|rfl|rfl<;>decide)
  clear pt ps
  have b1:(n==1)=false:=by rcases hk with rfl|rfl|rfl<;>rfl
  have b2:(n==2)=false:=by rcases hk with rfl|rfl|rfl<;>rfl
  have b3:(n==3)=false:=by rcases hk with rfl|rfl|rfl<;>rfl
  have b7:(n==7)=false:=by rcases hk with rfl|rfl|rfl<;>rfl
  have b8:(n==8)=false:=by rcases hk with rfl|rfl|rfl<;>rfl
  have b9:(n==9)=false:=by rcases hk with rfl|rfl|rfl<;>rfl
  have b10:(n==10)=false:=by rcases hk with rfl|rfl|rfl<;>rfl
  have b3':(n !=3)=true:=by rcases hk with rfl|rfl|rfl<;>rfl
  have hi:Zfx (l'++[y]) (p0,s,g,x,n,hd) (ZaB (p0,s,g,x,n,hd) n d) n=l'++[(y.1,x,y.2.2.1,n,y.2.2.2.2)]:=by
   rw[ZHI _ _ _ b3]
   have hkn:Zlb n=1:=by unfold Zlb;simp only[b8,b9,b10,cond_false]
   have hcn:cycN (p0,s,g,x,n,hd) n x=x:=by unfold cycN;simp only[b8,b9,b10,cond_false]
   unfold Zfx
   simp only[hkn,hcn,b1,b7]
   show ZeY (l'++[y]) _=_
   rw[Zct,itN y (n-1) yN (by omega) (by omega)]
   simp
  rw[hi]
  have hit':cyI (l'++[(y.1,x,y.2.2.1,n,y.2.2.2.2)])=cyA s0 ev++cyX (Zu (ZaH s0 ev) s) s [] g:=by
   rw[<-hit,Zeo,Zeo]
   have q1:decide (n>=3)=true:=decide_eq_true (by omega)
   have q2:decide (y.2.2.2.1>=3)=true:=decide_eq_true (by omega)
   simp only[y1,q1,q2,yc]
  have hno:s=0->(Zm p0 l).2.2.2.2.1=true->False:=λa b=>by have:=rest a (by rw[<-hhl];exact b);omega
  have hby:ZeF (p0,s,g,x,n,hd) n d=g:=by
   unfold ZeF;simp only[b3,cond_false]
  have hrd:rdS (p0,s,g,x,n,hd) n d=(x,g):=by unfold rdS;simp only[b3',cond_true]
  have hen:Zj1 n x= !(decide (n<x.2.2.2)&& !(n==6)):=by
   unfold Zj1 ZnG
   rcases hk with rfl|rfl|rfl
   ·by_cases q:(4:Int)<x.2.2.2
    ·have q1:decide (x.2.2.2<=4)=false:=decide_eq_false (by omega)
     have q2:decide ((4:Int)<x.2.2.2)=true:=decide_eq_true q
     simp only[RT.val,q2];exact q1
    ·have q1:decide (x.2.2.2<=4)=true:=decide_eq_true (by omega)
     have q2:decide ((4:Int)<x.2.2.2)=false:=decide_eq_false q
     simp only[RT.val,q2];exact q1
   ·by_cases q:(5:Int)<x.2.2.2
    ·have q1:decide (x.2.2.2<=5)=false:=decide_eq_false (by omega)
     have q2:decide ((5:Int)<x.2.2.2)=true:=decide_eq_true q
     simp only[RT.val,q2];exact q1
    ·have q1:decide (x.2.2.2<=5)=true:=decide_eq_true (by omega)
     have q2:decide ((5:Int)<x.2.2.2)=false:=decide_eq_false q
     simp only[RT.val,q2];exact q1
   ·cases decide ((6:Int)<x.2.2.2)<;>rfl
  have hclk:Zaa (p0,s,g,x,n,hd) l d=bif decide (n<x.2.2.2)&& !(n==6) then (Zm p0 l,s,g,x,n+1,hd) else endX (Zm p0 l) s g hd l:=by
   unfold Zaa
   simp only[hr,hsx,b1,b2,b3,b7,b8,b9,Bool.or_self,cond_false]
  cases hle:decide (n<x.2.2.2)&& !(n==6)
  ·have hck:Zaa (p0,s,g,x,n,hd) l d=endX (Zm p0 l) s g hd l:=by rw[hclk,hle];rfl
   have hf:finS (p0,s,g,x,n,hd) l d=bif (Zl (Zm p0 l) s g).2 then (ZHO,false) else (finX (Zm p0 l) s g l,true):=by
    unfold finS
    simp only[hr,hrd,hen,hle,cond_true,cond_false,Bool.not_true,Bool.not_false]
   have:=ZM3 (Zm p0 l) s g hd l hcp hun hno hit' ln
   rw[hck,hf,hby]
   cases hn:(Zl (Zm p0 l) s g).2
   ·rw[hn] at this;exact this
   ·rw[hn] at this;exact this
  ·have hf:(finS (p0,s,g,x,n,hd) l d).2=false:=by
    unfold finS
    simp only[hr,hrd,hen,hle,cond_true,cond_false,Bool.not_true,Bool.not_false]
   have hck:Zaa (p0,s,g,x,n,hd) l d=(Zm p0 l,s,g,x,n+1,hd):=by rw[hclk,hle];rfl
   have h6:n≠6:=by simp at hle;exact hle.2
   rw[hck,hf]
   refine⟨hcp,hun,by show 1<=n+1/\n+1<=9;omega,λa b=>(hno a b).elim,λe=>by replace e:n+1=9:=e;omega,λe=>by replace e:n+1<4\/6<n+1:=e;omega,hit',ln,λe=>by replace e:n+1=2\/n+1=3\/n+1=7:=e;omega,λ_ _=>⟨l',_,rfl,y1,?_,rfl⟩⟩
   show n=n+1-1
   omega
 rcases hcases with e|e|e|e|e|e|e|e|e
 ·--T1
  subst e
  rw[hnf 1 rfl rfl rfl]
  have hck:Zaa (p0,s,g,x,1,hd) l d=(Zm p0 l,s,g,x,2,hd):=by unfold Zaa;simp only[hr,hsx];rfl
  rw[hck,ZHI _ _ _ rfl]
  refine⟨hcp,hun,⟨(by decide:(1:Int)<=2),(by decide:(2:Int)<=9)⟩,λa b=> ?_,λe=>by simp at e,λ_=>by rw[hnxt];exact cy (by omega),?_,ln,λ_=>⟨it,_,rfl,rfl,rfl⟩,λe=>by simp at e⟩
  ·have:=rest a (by rw[<-hhl];exact b)
   omega
  ·show cyI (it++[_])=_
   rw[Zeo]
   show cyI it++[]=_
   rw[List.append_nil];exact hit
 ·--T2
  subst e
  rw[hnf 2 rfl rfl rfl]
  obtain⟨l',y,rfl,y1,yN⟩:=pt (.inl rfl)
  have hi:Zfx (l'++[y]) (p0,s,g,x,2,hd) (ZaB (p0,s,g,x,2,hd) 2 d) 2=l'++[(y.1,x,y.2.2.1,2,y.2.2.2.2)]:=by
   rw[ZHI _ _ _ rfl]
   show ZeY (l'++[y]) _=_
   rw[Zct,itN y 1 yN (by decide) (by decide)];rfl
  have hcy:cyI (l'++[(y.1,x,y.2.2.1,2,y.2.2.2.2)])=cyI (l'++[y]):=by
   rw[Zeo,Zeo]
   have:y.2.2.2.1=1:=yN
   rw[this,y1];rfl
  rw[hi]
  have hno:s=0->p0.2.2.2.2.1=true->False:=λa b=>by have:=rest a b;omega
  have hck:Zaa (p0,s,g,x,2,hd) l d=(Zm p0 l,s,g,x,bif l.1|| !Zam x.1 then 3 else 7,bif l.1|| !Zam x.1 then l.2.1 else hd):=by
   unfold Zaa
   simp only[hr,hsx]
   show (bif l.1|| !Zam x.1 then _ else _)=_
   cases l.1|| !Zam x.1<;>rfl
  rw[hck]
  have hk:(bif l.1|| !Zam x.1 then (3:Int) else 7)=3\/(bif l.1|| !Zam x.1 then (3:Int) else 7)=7:=by cases l.1|| !Zam x.1<;>simp
  generalize (bif l.1|| !Zam x.1 then (3:Int) else 7)=k at hk
  refine⟨hcp,hun,by show 1<=k/\k<=9;omega,λa b=>(hno a (by rw[<-hhl];exact b)).elim,λe=>by replace e:k=9:=e;omega,λ_=>by rw[hnxt];exact cy (by omega),by rw[hcy];exact hit,ln,λ_=>⟨l',_,rfl,y1,?_⟩,λe1 e2=>by replace e1:4<=k:=e1;replace e2:k<=6:=e2;omega⟩
  show (2:Int)=bif k==2 then 1 else 2
  rcases hk with rfl|rfl<;>rfl
 ·--T3
  subst e
  obtain⟨l',y,rfl,y1,yN⟩:=pt (.inr (.inl rfl))
  obtain⟨cy1,cy2⟩:=cy (by omega)
  generalize hx3:Zdo (Zm p0 l) x d=x3
  have hx3':Zdo p0 x d=x3:=by rw[<-ZNv hchip];exact hx3
  have hcur:ZaB (p0,s,g,x,3,hd) 3 d=x3:=by rw[cur_3 _ _ (Zm p0 l) hchip];exact hx3
  have hi:Zfx (l'++[y]) (p0,s,g,x,3,hd) (ZaB (p0,s,g,x,3,hd) 3 d) 3=l'++[(y.1,x3,y.2.2.1,3,y.2.2.2.2)]:=by
   rw[hcur]
   show ZeY (l'++[y]) _=_
   rw[Zct,itN y 2 yN (by decide) (by decide)];rfl
  rw[hi]
  have hac:=ZSo (ZaH s0 ev) s
  have hna:∀g,Zl (Zu (ZaH s0 ev) s) s g=Zl p0 s g:=λg=>(ZG1 un s g).symm
  obtain⟨k1,k2⟩:=ZR4 (Zu (ZaH s0 ev) s) s g [] x3.2.2.1 ln (by rw[List.nil_append,hna];exact cy2)
  rw[List.nil_append,hna,<-cy1,<-hx3',ZJu p0 (Zu (ZaH s0 ev) s) (Zso un).1.symm,hx3'] at k1
  have hit':cyI (l'++[(y.1,x3,y.2.2.1,3,y.2.2.2.2)])=cyA s0 ev++cyX (Zu (ZaH s0 ev) s) s [] (g++[x3.2.2.1]):=by
   rw[k1,<-List.append_assoc,<-hit,Zeo,Zeo]
   have:y.2.2.2.1=2:=yN
   rw[this,y1]
   show cyI l'++[x3]=cyI l'++[]++[x3]
   rw[List.append_nil]
  have hno:s=0->(Zm p0 l).2.2.2.2.1=true->False:=λa b=>by have:=rest a (by rw[<-hhl];exact b);omega
  have hby:ZeF (p0,s,g,x,3,hd) 3 d=g++[x3.2.2.1]:=by
   unfold ZeF;rw[hcur];rfl
  have hrd:rdS (p0,s,g,x,3,hd) 3 d=(x3,g++[x3.2.2.1]):=by
   show (Zdo p0 x d,g++[(Zdo p0 x d).2.2.1])=_
   rw[hx3']
  have hen:Zj1 3 x3=le3 x3.2.2.2:=rfl
  cases hle:le3 x3.2.2.2
  ·have hf:(finS (p0,s,g,x,3,hd) l d).2=false:=by
    unfold finS
    simp only[hr,hrd,hen,hle,cond_true,cond_false,Bool.not_false]
   have hck:Zaa (p0,s,g,x,3,hd) l d=(Zm p0 l,s,g++[x3.2.2.1],x3,4,hd):=by
    unfold Zaa
    simp only[hr,hsx,hx3,hle]
    rfl
   rw[hck,hf]
   exact⟨hcp,hun,⟨(by decide:(1:Int)<=4),(by decide:(4:Int)<=9)⟩,λa b=>(hno a b).elim,λe=>by simp at e,λe=>by simp at e,hit',k2,λe=>by simp at e,λ_ _=>⟨l',_,rfl,y1,rfl,rfl⟩⟩
  ·have hck:Zaa (p0,s,g,x,3,hd) l d=endX (Zm p0 l) s (g++[x3.2.2.1]) hd l:=by
    unfold Zaa
    simp only[hr,hsx,hx3,hle]
    rfl
   have hf:finS (p0,s,g,x,3,hd) l d=bif (Zl (Zm p0 l) s (g++[x3.2.2.1])).2 then (ZHO,false) else (finX (Zm p0 l) s (g++[x3.2.2.1]) l,true):=by
    unfold finS
    simp only[hr,hrd,hen,hle,cond_true,cond_false,Bool.not_true]
   have:=ZM3 (Zm p0 l) s (g++[x3.2.2.1]) hd l hcp hun hno hit' k2
   rw[hck,hf,hby]
   cases hn:(Zl (Zm p0 l) s (g++[x3.2.2.1])).2
   ·rw[hn] at this;exact this
   ·rw[hn] at this;exact this
 ·exact sem456 4 (.inl rfl) e
 ·exact sem456 5 (.inr (.inl rfl)) e
 ·exact sem456 6 (.inr (.inr rfl)) e
 ·--TWait
  subst e
  rw[hnf 7 rfl rfl rfl]
  obtain⟨l',y,rfl,y1,yN⟩:=pt (.inr (.inr rfl))
  have hi:Zfx (l'++[y]) (p0,s,g,x,7,hd) (ZaB (p0,s,g,x,7,hd) 7 d) 7=l'++[(y.1,x,IntKind.wrap .i64 (y.2.2.1+1),y.2.2.2)]:=by
   rw[ZHI _ _ _ rfl]
   show ZeY (l'++[y]) _=_
   rw[Zct];rfl
  have hcy:cyI (l'++[(y.1,x,IntKind.wrap .i64 (y.2.2.1+1),y.2.2.2)])=cyI (l'++[y]):=by
   rw[Zeo,Zeo]
   have:y.2.2.2.1=2:=yN
   rw[this,y1];rfl
  rw[hi]
  have hno:s=0->p0.2.2.2.2.1=true->False:=λa b=>by have:=rest a b;omega
  have hck:Zaa (p0,s,g,x,7,hd) l d=(Zm p0 l,s,g,x,bif l.1|| !Zam x.1 then 3 else 7,bif l.1|| !Zam x.1 then l.2.1 else hd):=by
   unfold Zaa
   simp only[hr,hsx]
   show (bif l.1|| !Zam x.1 then _ else _)=_
   cases l.1|| !Zam x.1<;>rfl
  rw[hck]
  have hk:(bif l.1|| !Zam x.1 then (3:Int) else 7)=3\/(bif l.1|| !Zam x.1 then (3:Int) else 7)=7:=by cases l.1|| !Zam x.1<;>simp
  generalize (bif l.1|| !Zam x.1 then (3:Int) else 7)=k at hk
  refine⟨hcp,hun,by show 1<=k/\k<=9;omega,λa b=>(hno a (by rw[<-hhl];exact b)).elim,λe=>by replace e:k=9:=e;omega,λ_=>by rw[hnxt];exact cy (by omega),by rw[hcy];exact hit,ln,λ_=>⟨l',_,rfl,y1,?_⟩,λe1 e2=>by replace e1:4<=k:=e1;replace e2:k<=6:=e2;omega⟩
  show y.2.2.2.1=bif k==2 then 1 else 2
  rw[show y.2.2.2.1=2 from yN]
  rcases hk with rfl|rfl<;>rfl
 ·--THold
  subst e
  rw[hnf 8 rfl rfl rfl]
  have hck:Zaa (p0,s,g,x,8,hd) l d=(Zm p0 l,s,g,x,idlX (Zm p0 l) s l.2.1,hd):=by unfold Zaa;simp only[hr,hsx];rfl
  have hcy:cyI (Zfx it (p0,s,g,x,8,hd) (ZaB (p0,s,g,x,8,hd) 8 d) 8)=cyI it:=ZpS (by decide) rfl
  rw[hck]
  obtain⟨i1,i2,i3⟩:=ZpA (Zm p0 l) s l.2.1
  generalize idlX (Zm p0 l) s l.2.1=k at i1 i2 i3
  refine⟨hcp,hun,by show 1<=k/\k<=9;omega,λa b=>⟨i3 a b,(rest a (by rw[<-hhl];exact b)).2⟩,i2,λ_=>by rw[hnxt];exact cy (by omega),by rw[hcy];exact hit,ln,λe=>by replace e:k=2\/k=3\/k=7:=e;omega,λe1 e2=>by replace e1:4<=k:=e1;replace e2:k<=6:=e2;omega⟩
 ·--THalt
  subst e
  rw[hnf 9 rfl rfl rfl]
  obtain⟨z1,z2⟩:=nine rfl
  obtain⟨_,z3⟩:=rest z1 z2
  subst z1;subst z3
  have hcy:cyI (Zfx it (p0,0,[],x,9,hd) (ZaB (p0,0,[],x,9,hd) 9 d) 9)=cyI it:=ZpS (by decide) rfl
  have hck:Zaa (p0,0,[],x,9,hd) l d=bif ZfU (Zm p0 l) l==0 then (Zm p0 l,0,[],x,bif l.2.1 then 8 else 9,hd) else (Zu (Zm p0 l) (ZfU (Zm p0 l) l),ZfU (Zm p0 l) l,[],(Zl (Zu (Zm p0 l) (ZfU (Zm p0 l) l)) (ZfU (Zm p0 l) l) []).1,bif l.2.1 then 8 else 1,hd):=by
   unfold Zaa;simp only[hr,hsx];rfl
  rw[hck]
  generalize ZfU (Zm p0 l) l=k
  cases hk:k==0
  ·simp only[cond_false]
   have hk0:k≠0:=by simpa using hk
   have hn:(bif l.2.1 then (8:Int) else 1)=8\/(bif l.2.1 then (8:Int) else 1)=1:=by cases l.2.1<;>simp
   generalize (bif l.2.1 then (8:Int) else 1)=n at hn
   refine⟨hcp,ZXB (hun.trans (by rw[ZVl])) k,by show 1<=n/\n<=9;omega,λa _=>(hk0 a).elim,λe=>by replace e:n=9:=e;omega,λ_=>⟨rfl,ZlJ _ _⟩,by rw[hcy];exact hit,rfl,λe=>by replace e:n=2\/n=3\/n=7:=e;omega,λe1 e2=>by replace e1:4<=n:=e1;replace e2:n<=6:=e2;omega⟩
  ·simp only[cond_true]
   have hn:(bif l.2.1 then (8:Int) else 9)=8\/(bif l.2.1 then (8:Int) else 9)=9:=by cases l.2.1<;>simp
   generalize (bif l.2.1 then (8:Int) else 9)=n at hn
   refine⟨hcp,hun,by show 1<=n/\n<=9;omega,λa _=>⟨hn,rfl⟩,λ_=>⟨rfl,by rw[<-hhl] at z2;exact z2⟩,λ_=>by rw[hnxt];exact cy (by omega),by rw[hcy];exact hit,rfl,λe=>by replace e:n=2\/n=3\/n=7:=e;omega,λe1 e2=>by replace e1:4<=n:=e1;replace e2:n<=6:=e2;omega⟩
theorem Z1i (k t:Int) (x:TY) (d:Int) (i o:Bool):ZRB (ZmQ k t x d i o)=(t==8):=by
 unfold ZmQ ZFK ZRB
 simp only[RT.val]
 cases h8:t==8
 ·cases t==9
  ·cases t==10
   ·cases rOn k<;>rfl
   ·rfl
  ·rfl
 ·rfl
theorem ZPd {c:CORT} {l:LINT} {d:Int} (h:ZRB (Zum c l d)=true):l.2.2.1=false/\ZaD c.2.2.2.2.1=8:=by
 unfold Zum at h
 rw[Z1i] at h
 cases hl:l.2.2.1
 ·rw[hl] at h
  simp at h
  exact⟨rfl,h⟩
 ·rw[hl] at h
  simp at h
theorem ZM2 {s0:TC} {c:CORT} {ev:List EVTT} {cp:List TC} {it:List ITMT} (h:Sem s0 c ev cp it) (l:LINT) (d:Int) (cell:Cell) (moved:Bool) (hr:l.2.2.1=true) (x:TY):
  Sem s0 (Zaa c l d) (evE ev c l d cell moved) (evC cp s0 c (Zaa c l d) l d moved) (Zfx it c x 10):=by
 have hck:Zaa c l d=Zzu (ZO c.1) 0:=by unfold Zaa;rw[hr];rfl
 have he:evE ev c l d cell moved=(bif Zdq c then ev++[Zfg (6,c.2.1,c.2.2.1,ZfQ,false,false,false,false,0,0) c.1 l] else ev)++[Zfg (4,0,[],ZfQ,false,false,false,false,0,0) c.1 l]:=by unfold evE;rw[hr];rfl
 have hc:evC cp s0 c (Zaa c l d) l d moved=(bif Zdq c then cp++[Zpp s0 cp] else cp)++[ZO c.1]:=by unfold evC;rw[hr,hck];rfl
 rw[he,hc,hck]
 have hcyi:cyI (Zfx it c x 10)=cyI it:=ZpS (by decide) rfl
 obtain⟨ev',cp',hev,hcp',hl',hcy⟩:∃ev' cp',(bif Zdq c then ev++[Zfg (6,c.2.1,c.2.2.1,ZfQ,false,false,false,false,0,0) c.1 l] else ev)=ev'/\(bif Zdq c then cp++[Zpp s0 cp] else cp)=cp'/\(cp'=ZdI s0 ev'/\ZaH s0 ev'=ZaH s0 ev)/\cyA s0 ev'=cyI it:=by
  cases hb:Zdq c
  ·refine⟨ev,cp,rfl,rfl,⟨h.hcp,rfl⟩,?_⟩
   have hg:c.2.2.1=[]:=by
    unfold Zdq ZGd at hb
    simp only[RT.val] at hb
    have hx:(decide (iN (List.length c.2.2.1)>0)||c.2.1 !=0)=false:=by
     cases hq:(decide (iN (List.length c.2.2.1)>0)||c.2.1 !=0)
     ·rfl
     ·rw[hq] at hb;cases h2:decide (c.2.2.2.2.1>=2)<;>rw[h2] at hb<;>simp at hb
    rw[Bool.or_eq_false_iff] at hx
    have:=hx.1
    simp only[iN,decide_eq_false_iff_not] at this
    exact List.length_eq_zero_iff.1 (by omega)
   have:=h.hit
   rw[hg] at this
   rw[this]
   show _=_++[]
   rw[List.append_nil]
  ·generalize hcut:Zfg (6,c.2.1,c.2.2.1,ZfQ,false,false,false,false,0,0) c.1 l=e
   have e1:e.1=6:=by rw[<-hcut,Zbu]
   have e2:e.2.1=c.2.1:=by rw[<-hcut,Zbu]
   have e3:e.2.2.1=c.2.2.1:=by rw[<-hcut,Zbu]
   have ha:ZaZ (ZaH s0 ev) e=ZaH s0 ev:=by unfold ZaZ Zqi;rw[e1];rfl
   refine⟨_,_,rfl,rfl,⟨?_,by simp only[cond_true];rw[Ze5,ha]⟩,?_⟩
   ·simp only[cond_true];rw[h.hcp,Zd4,Zkj,ha]
   ·simp only[cond_true]
    rw[Zh6,h.hit]
    unfold Za8 cycE Zqi
    rw[e1,e2,e3];rfl
 rw[hev,hcp']
 generalize hrs:Zfg (4,0,[],ZfQ,false,false,false,false,0,0) c.1 l=e
 have e1:e.1=4:=by rw[<-hrs,Zbu]
 have hreg:=Zso h.un
 have hac:=ZSo (ZaH s0 ev) c.2.1
 have ha:ZaZ (ZaH s0 ev') e=ZO c.1:=by
  have:ZaZ (ZaH s0 ev') e=ZO (ZaH s0 ev'):=by unfold ZaZ Zqi;rw[e1];rfl
  rw[this,hl'.2]
  exact ZNq (by rw[hreg.1,hac.1]) (by rw[hreg.2,hac.2])
 have hc0:Za8 (ZaH s0 ev') e=[]:=by unfold Za8 cycE Zqi;rw[e1];rfl
 have hl:ZaH s0 (ev'++[e])=ZO c.1:=by rw[Ze5,ha]
 refine⟨by rw[hl'.1,Zd4,ha],by rw[hl];rfl,⟨(by decide:(1:Int)<=1),(by decide:(1:Int)<=9)⟩,λ_ b=> ?_,λe=> ?_,λ_=>⟨rfl,ZlJ _ _⟩,?_,rfl,λe=> ?_,λe _=> ?_⟩
 ·have:(ZO c.1).2.2.2.2.1=false:=rfl
  replace b:(ZO c.1).2.2.2.2.1=true:=b
  rw[this] at b;simp at b
 ·replace e:(1:Int)=9:=e;omega
 ·rw[hcyi,Zh6,hc0,hcy,hl]
  show _=_++[]++[]
  rw[List.append_nil,List.append_nil]
 ·replace e:(1:Int)=2\/(1:Int)=3\/(1:Int)=7:=e;omega
 ·replace e:(4:Int)<=1:=e;omega
theorem ZM1 (b:BRDT) (s0:TC) (st:STT) (i:INPT) (h:Sem s0 st.1.1 st.2.2.2.1 st.2.2.2.2 st.2.2.1):Sem s0 (ZcP b s0 st i).1.1 (ZcP b s0 st i).2.2.2.1 (ZcP b s0 st i).2.2.2.2 (ZcP b s0 st i).2.2.1:=by
 have hcore:(ZbJ b st.1 i).1.1=Zaa st.1.1 (ZdB b (Z8 b st.1 i) i) (busS b (Z8 b st.1 i) i).2:=ZrQ b st.1 i
 show Sem s0 (ZbJ b st.1 i).1.1 (evE st.2.2.2.1 st.1.1 (ZdB b (Z8 b st.1 i) i) (busS b (Z8 b st.1 i) i).2 (ZbJ b st.1 i).2.2.2.2.1 (Zjb b st.1 i)) (evC st.2.2.2.2 s0 st.1.1 (ZbJ b st.1 i).1.1 (ZdB b (Z8 b st.1 i) i) (busS b (Z8 b st.1 i) i).2 (Zjb b st.1 i))
  (Zfx st.2.2.1 st.1.1 (ZaB st.1.1 (nowS st.1 i) (busS b (Z8 b st.1 i) i).2) (nowS st.1 i))
 rw[hcore]
 have hl2:(ZdB b (Z8 b st.1 i) i).2.2.1=i.2.2.1:=rfl
 generalize hL:ZdB b (Z8 b st.1 i) i=l at hl2|-
 generalize hD:(busS b (Z8 b st.1 i) i).2=d
 cases hr:i.2.2.1
 ·have hnow:nowS st.1 i=Zae st.1.1:=by unfold nowS;rw[hr];rfl
  rw[hnow]
  rw[hr] at hl2
  have hcalm:=ZS9 h l d (ZbJ b st.1 i).2.2.2.2.1 hl2
  cases hm:Zjb b st.1 i
  ·exact hcalm
  ·--a byte is moved:in a hold state
   have h8:ZaD st.1.1.2.2.2.2.1=8:=by
    unfold Zjb at hm
    rw[Bool.and_eq_true] at hm
    have hp:=hm.1
    unfold pinS at hp
    rw[hL,hD,(ZlU b (Z8 b st.1 i) i).1] at hp
    exact (ZPd hp).2
   have hf:(finS st.1.1 l d).2=false:=by
    have h8':st.1.1.2.2.2.2.1=8:=by
     have:=h.nx
     have h1:(decide (st.1.1.2.2.2.2.1<1)||decide (st.1.1.2.2.2.2.1>9))=false:=by simp;omega
     simp only[ZaD,h1,cond_false] at h8
     exact h8
    unfold finS rdS
    rw[hl2,h8'];rfl
   have e1:evE st.2.2.2.1 st.1.1 l d (ZbJ b st.1 i).2.2.2.2.1 true=st.2.2.2.1++[(5,0,[],ZfQ,false,false,false,false,(ZbJ b st.1 i).2.2.2.2.1)]:=by
    unfold evE;rw[hl2,hf];rfl
   have e2:evE st.2.2.2.1 st.1.1 l d (ZbJ b st.1 i).2.2.2.2.1 false=st.2.2.2.1:=by
    unfold evE;rw[hl2,hf];rfl
   have e3:evC st.2.2.2.2 s0 st.1.1 (Zaa st.1.1 l d) l d true=st.2.2.2.2++[Zpp s0 st.2.2.2.2]:=by
    unfold evC;rw[hl2,hf];rfl
   have e4:evC st.2.2.2.2 s0 st.1.1 (Zaa st.1.1 l d) l d false=st.2.2.2.2:=by
    unfold evC;rw[hl2,hf];rfl
   rw[e1,e3]
   rw[e2,e4] at hcalm
   exact ZS8 hcalm _ rfl rfl
 ·have hnow:nowS st.1 i=10:=by unfold nowS;rw[hr];rfl
  rw[hnow]
  exact ZM2 h l d _ _ (by rw[hl2,hr]) _
theorem ZFa (b:BRDT) (s0:TC):∀(l:List INPT) (st:STT),Sem s0 st.1.1 st.2.2.2.1 st.2.2.2.2 st.2.2.1->Sem s0 (Zbk b s0 st l).1.1 (Zbk b s0 st l).2.2.2.1 (Zbk b s0 st l).2.2.2.2 (Zbk b s0 st l).2.2.1
 |[],st,h=>h
 |i::l,st,h=>ZFa b s0 l (ZcP b s0 st i) (ZM1 b s0 st i h)
theorem Z08 (b:BRDT) (hg:smG b.2.1=true) (hm:b.2.2.2.2.2.2.length<=100000) (hx:((wNew b).2 !=0)=false):wNew b=(newS b,0):=by
 have hv:(ZzK b).val=some (bif ZdY b !=0 then (ZzD,ZdY b) else ((newS b),0)):=by
  unfold ZzK
  have hc:=smCb (l:=b.2.2.2.2.2.2) (by omega)
  simp only[RT.val,Zwy b hg hc,hc,cond_true]
  cases ZdY b !=0<;>rfl
 have hx':(ZdY b !=0)=false:=by
  cases hq:ZdY b !=0
  ·rfl
  ·exfalso
   simp only[wNew,hv,getO,hq,cond_true] at hx
   simp at hx
 simp only[wNew,hv,getO,hx',cond_false]
theorem ZUO (b:BRDT) (hw:wNew b=(newS b,0)):Z7 b=ZgA b/\Sem (Z7 b) (Zce b).1.1 (Zce b).2.2.2.1 (Zce b).2.2.2.2 (Zce b).2.2.1:=by
 have hs:Z7 b=ZgA b:=by unfold Z7;rw[hw];rfl
 refine⟨hs,?_⟩
 have e:(Zce b).1.1=(Z7 b,0,[],(1,0,0,4),1,false):=by unfold Zce Z7;rw[hw];rfl
 rw[e]
 refine⟨rfl,rfl,⟨(by decide:(1:Int)<=1),(by decide:(1:Int)<=9)⟩,λ_ q=> ?_,λe=> ?_,λ_=>⟨?_,ZlJ _ _⟩,rfl,rfl,λe=> ?_,λe _=> ?_⟩
 ·have:(Z7 b).2.2.2.2.1=false:=by rw[hs];rfl
  replace q:(Z7 b).2.2.2.2.1=true:=q
  rw[this] at q;simp at q
 ·replace e:(1:Int)=9:=e;omega
 ·have:Z7 b=ZgA b:=hs
  show ((1,0,0,4):TY)=(Zl (Z7 b) 0 []).1
  rw[this];rfl
 ·replace e:(1:Int)=2\/(1:Int)=3\/(1:Int)=7:=e;omega
 ·replace e:(4:Int)<=1:=e;omega
theorem ZNd (b:BRDT) (l:List INPT) (hg:smG b.2.1=true) (hm:b.2.2.2.2.2.2.length<=100000):
  (ZcM b l).1.2.2.2.1=ZdI (ZgA b) (ZcM b l).1.2.2.1/\cyI (ZcM b l).1.2.1=cyA (ZgA b) (ZcM b l).1.2.2.1:=by
 unfold ZcM
 cases hx:(wNew b).2 !=0
 ·obtain⟨hs,hi⟩:=ZUO b (Z08 b hg hm hx)
  have hf:=ZFa b (Z7 b) l (Zce b) hi
  rw[<-hs]
  show (endS (Z7 b) (Zbk b (Z7 b) (Zce b) l)).2.2.2.1=ZdI (Z7 b) (endS (Z7 b) (Zbk b (Z7 b) (Zce b) l)).2.2.1/\cyI (endS (Z7 b) (Zbk b (Z7 b) (Zce b) l)).2.1=cyA (Z7 b) (endS (Z7 b) (Zbk b (Z7 b) (Zce b) l)).2.2.1
  generalize Zbk b (Z7 b) (Zce b) l=st at hf
  unfold endS
  cases hb:Zdq st.1.1
  ·refine⟨hf.hcp,?_⟩
   have hg:st.1.1.2.2.1=[]:=by
    unfold Zdq ZGd at hb
    simp only[RT.val] at hb
    have hx:(decide (iN (List.length st.1.1.2.2.1)>0)||st.1.1.2.1 !=0)=false:=by
     cases hq:(decide (iN (List.length st.1.1.2.2.1)>0)||st.1.1.2.1 !=0)
     ·rfl
     ·rw[hq] at hb;cases h2:decide (st.1.1.2.2.2.2.1>=2)<;>rw[h2] at hb<;>simp at hb
    rw[Bool.or_eq_false_iff] at hx
    have:=hx.1
    simp only[iN,decide_eq_false_iff_not] at this
    exact List.length_eq_zero_iff.1 (by omega)
   have:=hf.hit
   rw[hg] at this
   show cyI st.2.2.1=_
   rw[this]
   show _++[]=_
   rw[List.append_nil];rfl
  ·simp only[cond_true]
   have ha:ZaZ (ZaH (Z7 b) st.2.2.2.1) (7,st.1.1.2.1,st.1.1.2.2.1,ZfQ,false,false,false,false,0,0)=ZaH (Z7 b) st.2.2.2.1:=rfl
   refine⟨by rw[hf.hcp,Zd4,Zkj,ha],?_⟩
   rw[Zh6]
   exact hf.hit
 ·exact⟨rfl,rfl⟩
theorem ZNg (b:BRDT) (l:List INPT) (hg:smG b.2.1=true) (hm:b.2.2.2.2.2.2.length<=100000) (hl:l.length<=1000):(ZcM b l).1.2.1.length<=1000/\(ZcM b l).1.1.length<=1000:=by
 obtain⟨_,_,h0⟩:=ZzJ b hg hm
 unfold ZcM
 cases hx:(wNew b).2 !=0
 ·have h0:=(h0 (by simpa using hx)).1
  have hf:=ZpG b (Z7 b) l (Zce b) 0 h0
  rw[Nat.zero_add] at hf
  exact⟨Nat.le_trans hf.it hl,Nat.le_trans hf.t hl⟩
 ·exact⟨Nat.zero_le _,Nat.zero_le _⟩
abbrev Zpq:List Sh:=[Sh.one (R.sl (R.int i64))]
abbrev Zh2:Rs:=Rs.one (Sh.one R.bool)
def Zy1:LS:={n:=75,slots:=[(3,.fix (A.loc 0 0)),(4,.fix (A.loc 1 0)),(5,.tip 0),(6,.fix .nilsl),(31,.code (Sh.one (R.sl Zhp))),(32,.code (Sh.one (R.int i64))),(33,.code (Sh.one (R.int i64)))],boxes:=[[.many (R.pair (R.int i64) (R.pair rcRG (R.pair (R.int i64) (R.pair (R.int u8) (R.pair (R.int u8) (R.pair R.bool rcCE))))))],[.many (R.pair (R.sl ZIb) (R.pair (R.sl Zhp) (R.pair (R.sl Zbh) (R.pair (R.sl Zx) (R.pair (R.pair Zx (R.pair (R.int i64) (R.pair (R.sl (R.int u8)) (R.pair (RY) (R.pair (R.int i64) R.bool))))) (R.pair rcCE (R.pair Za4 (R.pair (R.pair (R.int u16) (R.pair (R.int u8) (R.int i64))) (R.pair (R.int i64) (R.sl (R.pair (R.int u8) (R.int u8))))))))))))]],stgs:=[⟨(RY),41,true⟩]}
def Zcv (a:List ITMT×Int×Int×BRDT×RUNT×List TY×PUnit):RT (Option (Go1 (List ITMT×Int×Int×BRDT×RUNT×List TY×PUnit))):=
 let x1:ITMT:=R.get Zhp a.1 a.2.2.1
 let x2:=x1.2
 let x3:=x1.1==1&&decide (x2.2.2.1>=3)
 let x4:List TY:=a.2.2.2.2.2.1++[x2.1]
 .br (decide (a.2.2.1<a.2.1)) (.br (!Zf a.2.2.1 (List.length a.1)||(!x3||Nat.ble (List.length x4) most)) (.br (Zf a.2.2.1 (List.length a.1)) (.leaf (some (Go1.cont (a.1,a.2.1,i64.wrap (a.2.2.1+1),a.2.2.2.1,a.2.2.2.2.1,bif x3 then x4 else a.2.2.2.2.2.1,PUnit.unit)))) (.leaf none)) (.leaf none)) (.leaf (some (Go1.brk (a.1,a.2.1,a.2.2.1,a.2.2.2.1,a.2.2.2.2.1,a.2.2.2.2.2.1,PUnit.unit))))
def ZkU:Ora:=Za5 true Zy1 Zcv (λa=>1000000000000)
theorem Zqh:ZaJ (envX Tryz.prog [(45,kKbE),(48,Zhm),(50,Zie),(51,Zfe),(54,ZHr),(55,Zih),(56,ZgN),(60,ZvX)] [] 4095 8) (.block 0 (.loop (Z6 Tryz.f11.body 0))) ZkU:=
 loopP ⟨ZRo,Zff,ZhF,Zes,ZvY,ZhG,ZfK,Zps,Tv⟩
def Zy0:LS:={n:=75,slots:=[(5,.tip 0),(6,.tip 1),(9,.fix (A.loc 2 0)),(54,.code (Sh.one (R.sl Zbh))),(55,.code (Sh.one (R.int i64))),(56,.code (Sh.one (R.int i64)))],boxes:=[[.many (R.pair (R.int i64) (R.pair rcRG (R.pair (R.int i64) (R.pair (R.int u8) (R.pair (R.int u8) (R.pair R.bool rcCE))))))],[.many (R.pair (R.sl ZIb) (R.pair (R.sl Zhp) (R.pair (R.sl Zbh) (R.pair (R.sl Zx) (R.pair (R.pair Zx (R.pair (R.int i64) (R.pair (R.sl (R.int u8)) (R.pair (RY) (R.pair (R.int i64) R.bool))))) (R.pair rcCE (R.pair Za4 (R.pair (R.pair (R.int u16) (R.pair (R.int u8) (R.int i64))) (R.pair (R.int i64) (R.sl (R.pair (R.int u8) (R.int u8))))))))))))],[.many Zx]],stgs:=[⟨RY,41,true⟩,⟨(RY),41,true⟩]}
def Zcu (a:List EVTT×Int×Int×BRDT×RUNT×TC×List TY×List TY×PUnit):RT (Option (Go1 (List EVTT×Int×Int×BRDT×RUNT×TC×List TY×List TY×PUnit))):=
 let x1:EVTT:=R.get Zbh a.1 a.2.2.1
 let x2:=ZsL x1
 let x3:List TY:=a.2.2.2.2.2.2.2.1++Za8 a.2.2.2.2.2.1 x1
 let x4:= !x2||Nat.ble (List.length x3) most
 .br (decide (a.2.2.1<a.2.1)) (.br (!Zf a.2.2.1 (List.length a.1)||(!x4||x2)) (.br (!Zf a.2.2.1 (List.length a.1)||x4) (.br (Zf a.2.2.1 (List.length a.1)) (.leaf (some (Go1.cont (a.1,a.2.1,i64.wrap (a.2.2.1+1),a.2.2.2.1,a.2.2.2.2.1,ZaZ a.2.2.2.2.2.1 x1,a.2.2.2.2.2.2.1,x3,PUnit.unit)))) (.leaf none)) (.leaf none)) (.leaf none)) (.leaf (some (Go1.brk (a.1,a.2.1,a.2.2.1,a.2.2.2.1,a.2.2.2.2.1,a.2.2.2.2.2.1,a.2.2.2.2.2.2.1,a.2.2.2.2.2.2.2.1,PUnit.unit))))
def ZkT:Ora:=Za5 true Zy0 Zcu (λa=>1000000000000)
theorem Zqg:ZaJ (envX Tryz.prog [(45,kKbE),(48,Zhm),(50,Zie),(51,Zfe),(54,ZHr),(55,Zih),(56,ZgN),(60,ZvX)] [] 4095 8) (.block 2 (.loop (Z6 Tryz.f11.body 2))) ZkT:=
 loopP ⟨ZRo,Zff,ZhF,Zes,ZvY,ZhG,ZfK,Zps,Tv⟩
def Ze6 (n:List Int):RT (Option (Bool)):=
 let x1:List ITMT×Int×Int×BRDT×RUNT×List TY×PUnit:=((Zjg n true).2.2.1,iN (List.length (Zjg n true).2.2.1),0,(Zjg n true).1,(Zjg n true).2,[],())
 let x2:=runF true Zcv (λa=>1000000000000) x1
 let x3:=getO (false,x1) x2
 let x4:=x3.2.2.2.2
 let x5:=x4.2
 let x6:=x5.1
 let x7:=x6.2.2.1
 let x8:=x4.1
 let x9:List EVTT×Int×Int×BRDT×RUNT×TC×List TY×List TY×PUnit:=(x7,iN (List.length x7),0,x8,x6,ZgA x8,x5.2.1,[],())
 let x10:=runF true Zcu (λa=>1000000000000) x9
 let x11:=getO (false,x9) x10
 let x12:=x11.2.2.2.2.2.2.2
 let x13:=x12.2.1
 let x14:=Ziz x13
 let x15:=ZfS RY x13 x12.1
 .br (!decide (iN (List.length n)>250)||kKbC) (.br (decide (iN (List.length n)>250)) (.leaf (some (true))) (.br (ZHs n true) (.br (!Ziz (Zjg n true).2.2.2.1||Ziz (ZdI (ZgA (Zjg n true).1) (Zjg n true).2.2.2.1)) (.br (Ziz (Zjg n true).2.2.2.1) (.br (!ZfS Zx (ZdI (ZgA (Zjg n true).1) (Zjg n true).2.2.2.1) (Zjg n true).2.2.2.2.1) (.leaf (some (false))) (.br (okB x2) (.br x3.1 (.leaf none) (.br (okB x10) (.br x11.1 (.leaf none) (.br (!x14||(!x15||kKbC)) (.br (x14) (.leaf (some (x15&&kKb))) (.leaf none)) (.leaf none))) (.leaf none))) (.leaf none))) (.leaf none)) (.leaf none)) (.leaf none))) (.leaf none)
def Zpr (n:List Int):Bool:=getO Zh2.dflt (Ze6 n).val
def Zkk (n:List Int):Bool:=okB (Ze6 n).val
def ZKO:Entry:=Zg Zpq Zh2 (λa=>some (Zkk a)) (λa=>Zpr a)
theorem lProjects_ok:Za Tryz.prog 11 ZKO:=
 pureP 4095 [(45,kKbE),(48,Zhm),(50,Zie),(51,Zfe),(54,ZHr),(55,Zih),(56,ZgN),(60,ZvX)] [(0,ZkU),(2,ZkT)] Zpq Zh2 ⟨ZRo,Zff,ZhF,Zes,ZvY,ZhG,ZfK,Zps,Tv⟩ Tryz.func11 Tryz.call11 ⟨Zqh,Zqg,Tv⟩ (t:=λa=>Ze6 a)
theorem ZVb (l:List ITMT) (i:Nat) (h:i<l.length):cyI (l.take (i+1))=cyI (l.take i)++(bif (R.get Zhp l (i:Int)).1==1&&decide ((R.get Zhp l (i:Int)).2.2.2.1>=3) then [(R.get Zhp l (i:Int)).2.1] else []):=by
 rw[ZjO (r:=Zhp) l i h,Zeo]
theorem ZR5 (l:List ITMT):(cyI l).length<=l.length:=by unfold cyI;rw[List.length_map];exact List.length_filter_le _ _
theorem ZSs (l:List ITMT) (b:BRDT) (r:RUNT) (hl:l.length<=1000000):runF true Zcv (λ_=>1000000000000) (l,(l.length:Int),0,b,r,[],())=some (false,(l,(l.length:Int),(l.length:Int),b,r,cyI l,())):=by
 have hms:=mst
 obtain⟨q,hq,h1⟩:=ZM (fl:=true) (t:=Zcv) (fuel:=λ_=>1000000000000)
  (λa=>∃i:Nat,i<=l.length/\a=(l,(l.length:Int),(i:Int),b,r,cyI (l.take i),()))
  (λa=>Int.toNat (a.2.1-a.2.2.1)) (λq=>q=(false,(l,(l.length:Int),(l.length:Int),b,r,cyI l,())))
  (by
   rintro a ⟨i,hi,rfl⟩
   by_cases hlt:i<l.length
   ·left
    have d:decide ((i:Int)<(l.length:Int))=true:=decide_eq_true (by omega)
    have hin:Zf (i:Int) l.length=true:=ZI.2 ⟨by omega,by omega⟩
    have w:IntKind.wrap .i64 ((i:Int)+1)=((i+1:Nat):Int):=by rw[wrap_i64 _ (by omega) (by omega)];omega
    have hc:=ZR5 (l.take i)
    have hb:∀x:TY,Nat.ble (cyI (l.take i)++[x]).length most=true:=λx=>Zav (by rw[List.length_take] at hc;simp;omega)
    refine⟨(l,(l.length:Int),((i+1:Nat):Int),b,r,cyI (l.take (i+1)),()),?_,⟨i+1,by omega,rfl⟩,by simp only;omega⟩
    rw[ZVb l i hlt]
    simp only[Zcv,RT.val,d,hin,w,hb,Bool.or_true,cond_true]
    cases hk:(R.get Zhp l (i:Int)).1==1&&decide ((R.get Zhp l (i:Int)).2.2.2.1>=3)
    ·simp only[cond_false,List.append_nil]
    ·simp only[cond_true]
   ·right;left
    have e1:i=l.length:=by omega
    subst e1
    have d:decide ((l.length:Int)<(l.length:Int))=false:=decide_eq_false (by omega)
    refine⟨(l,(l.length:Int),(l.length:Int),b,r,cyI l,()),?_,rfl⟩
    rw[List.take_length]
    simp only[Zcv,RT.val,d,cond_false])
  (l,(l.length:Int),0,b,r,[],()) ⟨0,Nat.zero_le _,rfl⟩ (by simp only;omega)
 rw[h1] at hq
 exact hq
theorem ZR6:∀(l:List EVTT) (c:TC),(cyA c l).length<=wgh l
 |[],c=>Nat.le_refl _
 |e::l,c=>by
  have h1:=Zwe c e
  have h2:=ZR6 l (ZaZ c e)
  simp only[cyA,wgh,List.length_append];omega
theorem ZZJ (l:List EVTT) (b:BRDT) (r:RUNT) (s0:TC) (w0:List TY) (hl:l.length<=1000000) (hw:wgh l<=1000000000) (he:∀e∈l,e.2.2.1.length<=1000000):
  runF true Zcu (λ_=>1000000000000) (l,(l.length:Int),0,b,r,s0,w0,[],())=some (false,(l,(l.length:Int),(l.length:Int),b,r,ZaH s0 l,w0,cyA s0 l,())):=by
 have hms:=mst
 obtain⟨q,hq,h1⟩:=ZM (fl:=true) (t:=Zcu) (fuel:=λ_=>1000000000000)
  (λa=>∃i:Nat,i<=l.length/\a=(l,(l.length:Int),(i:Int),b,r,ZaH s0 (l.take i),w0,cyA s0 (l.take i),()))
  (λa=>Int.toNat (a.2.1-a.2.2.1)) (λq=>q=(false,(l,(l.length:Int),(l.length:Int),b,r,ZaH s0 l,w0,cyA s0 l,())))
  (by
   rintro a ⟨i,hi,rfl⟩
   by_cases hlt:i<l.length
   ·left
    have d:decide ((i:Int)<(l.length:Int))=true:=decide_eq_true (by omega)
    have hin:Zf (i:Int) l.length=true:=ZI.2 ⟨by omega,by omega⟩
    have w:IntKind.wrap .i64 ((i:Int)+1)=((i+1:Nat):Int):=by rw[wrap_i64 _ (by omega) (by omega)];omega
    have hmem:R.get Zbh l (i:Int)∈l:=by
     have:R.get Zbh l (i:Int)=l[i]:=by simp[R.get,List.getElem?_eq_getElem hlt]
     rw[this];exact List.getElem_mem _
    have ht:∀c,cyA c (l.take (i+1))=cyA c (l.take i)++Za8 (ZaH c (l.take i)) (R.get Zbh l (i:Int)):=λc=>by rw[ZjO (r:=Zbh) l i hlt,Zh6]
    have ht2:ZaH s0 (l.take (i+1))=ZaZ (ZaH s0 (l.take i)) (R.get Zbh l (i:Int)):=by rw[ZjO (r:=Zbh) l i hlt,Ze5]
    have hwt:wgh (l.take (i+1))<=wgh l:=by
     have:∀(k:Nat) (l:List EVTT),wgh (l.take k)<=wgh l:=by
      intro k
      induction k with
      |zero=>intro l;simp[wgh]
      |succ k ih=>
       intro l
       cases l with
       |nil=>simp[wgh]
       |cons e l=>have:=ih l;simp only[List.take_succ_cons,wgh];omega
     exact this _ l
    have hcl:=ZR6 (l.take (i+1)) s0
    have hb:Nat.ble (cyA s0 (l.take i)++Za8 (ZaH s0 (l.take i)) (R.get Zbh l (i:Int))).length most=true:=Zav (by rw[<-ht];omega)
    have hre:ZsL (R.get Zbh l (i:Int))=true:=Zav (he _ hmem)
    refine⟨(l,(l.length:Int),((i+1:Nat):Int),b,r,ZaH s0 (l.take (i+1)),w0,cyA s0 (l.take (i+1)),()),?_,⟨i+1,by omega,rfl⟩,by simp only;omega⟩
    rw[ht,ht2]
    simp only[Zcu,RT.val,d,hin,w,hb,hre,Bool.not_true,Bool.or_true,cond_true]
   ·right;left
    have e1:i=l.length:=by omega
    subst e1
    have d:decide ((l.length:Int)<(l.length:Int))=false:=decide_eq_false (by omega)
    refine⟨(l,(l.length:Int),(l.length:Int),b,r,ZaH s0 l,w0,cyA s0 l,()),?_,rfl⟩
    rw[List.take_length]
    simp only[Zcu,RT.val,d,cond_false])
  (l,(l.length:Int),0,b,r,s0,w0,[],()) ⟨0,Nat.zero_le _,rfl⟩ (by simp only;omega)
 rw[h1] at hq
 exact hq
theorem projects_law (n:List Int):Zkk n=true/\Zpr n=true:=by
 obtain⟨r1,r2,hg,hm,hs,_⟩:=ZXT n true
 obtain⟨e1,e2,e3⟩:=Z0p (brdK n true) (scrK n) hg (by omega) (by omega)
 obtain⟨t1,t2⟩:=ZNd (brdK n true) (scrK n) hg (by omega)
 obtain⟨t3,_⟩:=ZNg (brdK n true) (scrK n) hg (by omega) (by omega)
 have hw2:=wgh_b (ZcM (brdK n true) (scrK n)).1.2.2.1 1000 e2
 have hw3:wgh (ZcM (brdK n true) (scrK n)).1.2.2.1<=2001*1001:=Nat.le_trans hw2 (Nat.mul_le_mul e1 (Nat.le_refl _))
 have hk1:=ZSs (ZcM (brdK n true) (scrK n)).1.2.1 (brdK n true) (ZcM (brdK n true) (scrK n)).1 (by omega)
 have hk2:=ZZJ (ZcM (brdK n true) (scrK n)).1.2.2.1 (brdK n true) (ZcM (brdK n true) (scrK n)).1 (ZgA (brdK n true)) (cyI (ZcM (brdK n true) (scrK n)).1.2.1) (by omega) (by omega) (λe he=>Nat.le_trans (e2 e he) (by omega))
 have hL:Ziz (ZcM (brdK n true) (scrK n)).1.2.2.1=true:=ZsJ (by omega)
 have hL2:Ziz (ZdI (ZgA (brdK n true)) (ZcM (brdK n true) (scrK n)).1.2.2.1)=true:=ZsJ (by rw[ZNs];omega)
 have hci:=ZR5 (ZcM (brdK n true) (scrK n)).1.2.1
 have hL3:Ziz (cyI (ZcM (brdK n true) (scrK n)).1.2.1)=true:=ZsJ (by omega)
 have hv:(Ze6 n).val=some true:=by
  unfold Ze6
  cases hx:decide (iN (List.length n)>250)
  ·simp only[RT.val,r1,r2,hL,hL2,t1,iN] at hk1 hk2|-
   simp only[hk1,okB,getO,hk2,<-t2,hL3,ZqP,ZRk.1,ZRk.2,Bool.not_true,Bool.not_false,Bool.false_or,Bool.true_or,Bool.or_true,Bool.and_self,cond_true,cond_false]
  ·simp only[RT.val,ZRk.1,Bool.or_true,cond_true]
 exact⟨by simp only[Zkk,hv];rfl,by simp only[Zpr,hv,getO]⟩
end
end Go.Proofs.YtghoimllhpjkjaaGreat
