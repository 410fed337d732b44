import Derived.Test.YtpnjbfjomebppaaGreatS3B
import Derived.DeepKeys
open Go.IntKind (u8 u16 i64)
set_option linter.unusedVariables false
set_option linter.unusedSimpArgs false
namespace Go.S3
variable {P:Program}
variable {lit:Bool} {chk:Option Bool}
theorem ZkQ {b:Bool} (h:litC lit b=some chk) (hc:chk≠some false):b=true:=by
 unfold litC at h;split at h
 ·split at h
  ·rfl
  ·simp at h
 ·simp only[oinj] at h;subst h;cases b with
  |true=>rfl
  |false=>exact absurd rfl hc
variable {r:R} {i:Nat}
theorem ZGw {a b:List r.den} (h:i<a.length):elN r (a++b) i=elN r a i:=by simp only[elN,Ys,Yp h]
theorem Zzf {a b:List r.den} (h:a.length<=i):elN r (a++b) i=elN r b (i-a.length):=by simp only[elN,Ys,YU h]
variable {y:Ctx} {C:List Value}
theorem ZsE {x:Ctx} {a b:List r.den} {olds news:List Value} (hx:FzLe x y)
  (ho:∀i j d,i<a.length->nth (elN r a i) j=some d->∃u,olds[i*r.wid+j]? =some u/\RA x.bare d u) (hn:∀i j d,i<b.length->nth (elN r b i) j=some d->∃u,news[i*r.wid+j]? =some u/\RA x.bare d u)
  (h1:∀k,k<a.length*r.wid->C[k]? =olds[k]?) (h2:∀k,k<b.length*r.wid->C[a.length*r.wid+k]? =news[k]?):
  ∀i j d,i<(a++b).length->nth (elN r (a++b) i) j=some d->∃u,C[i*r.wid+j]? =some u/\RA y.bare d u:=by
 intro i j d hi hd;have hp:Zh2 d=true:=R.enc_plain _ _ _ (ZbB hd);by_cases hlt:i<a.length
 ·rw[ZGw hlt] at hd;obtain⟨u,e1,e2⟩:=ho i j d hlt hd;exact⟨u,by rw[h1 _ (Zd2 hlt hd)];exact e1,e2.plain (x':=y.bare) hx hp⟩
 ·have hge:a.length<=i:=by omega
  rw[Zzf hge] at hd;have hi':i-a.length<b.length:=by simp at hi;omega
  obtain⟨u,e1,e2⟩:=hn _ j d hi' hd;refine⟨u,?_,e2.plain (x':=y.bare) hx hp⟩;have:=h2 _ (Zd2 hi' hd);rw[<-e1,<-this];congr 1;have:a.length*r.wid+(i-a.length)*r.wid=i*r.wid:=by rw[<-Nat.add_mul];congr 1;omega
  omega
theorem ZL.drew_alloc (w:World) (o:Obj):ZL w (w.drew.alloc o):=⟨by simp,λk hk=>RowKit.Below.heap_alloc w.drew o k hk⟩
theorem ZL.drew (w:World):ZL w w.drew:=⟨Ye _,λ_ _=>rfl⟩
theorem ZeX {l:List r.den} {p cap:Nat} {full nn:Bool} (hcap:l.length<=cap) (hml:l.length<=maxLen) (hfull:full=true->cap=l.length)
  (hz:∀k u,C[k]? =some u->y.fz p k=some u) (hr:∀i j d,i<l.length->nth (elN r l i) j=some d->∃u,C[i*r.wid+j]? =some u/\RA y.bare d u):
  RA y (.lst r lit full nn l) (.slice (some ⟨p,0,none⟩) l.length cap):=by
 by_cases h0:l=[]
 ·subst h0;exact .lst0 _ _ _ _ _ _ _ _ rfl (λe=>hfull e) (λ_=>rfl) (λe=>by simp at e)
 ·refine .lst _ _ _ _ _ _ p 0 cap (λi j=>(C[i*r.wid+j]?).getD undef) h0 hfull hcap hml (λi j d hi hd=> ?_) (λi j d hi hd=> ?_)
  ·obtain⟨u,e1,_⟩:=hr i j d hi hd;rw[Yw,hz _ _ e1,e1];rfl
  ·obtain⟨u,e1,e2⟩:=hr i j d hi hd;rw[e1];exact e2
theorem ZOY {α:Type} {l:List α}:Zve l=true↔l=[]:=by cases l<;>simp[Zve]
theorem ZQk {q p:Sq r} (h:appC q p=some chk) (hc:chk≠some false) (hq:0<q.ub->q.l.length<q.ub):(q.l++p.l).length<=most:=by
 unfold appC at h;split at h
 ·rename_i hb;simp only[Yc,Yad,YG] at hb;have:=ZJL (p:=p) hq hb.1;omega
 ·have:=ZkQ h hc;simpa using this
set_option maxHeartbeats 1000000 in
theorem ZJe {x:Ctx} {s:St} {w:World} (hm:MK x s.mem w) {xa ya:A} {vx vy:Value} (hx:RA x xa vx) (hy:RA x ya vy) {t t':TypeId} (ty:TypeId) {res:Res}
  (h:Zlg P s t t' xa ya=some res) (hc:res.chk≠some false):
  ∃v w' x',(Builtin.append_ #[t,t'] ty #[vx,vy]).run P w=.ok v w'/\RV x' res.v v/\MK x' res.m w'/\Ext x x'/\Step x w w':=by
 unfold Zlg at h;split at h
 case h_2=>simp at h
 rename_i elem hbt hu;simp only[Yu] at hbt;subst hbt;split at h
 ·simp at h
 rename_i r hel;obtain⟨i,z,hi,hz,hzs,hsz,hby,hw⟩:=ZhJ hel;split at h
 case h_2=>simp at h
 rename_i q p hq hp;split at h
 ·simp at h
 rename_i chk hchk;obtain⟨b,cap2,news,rfl,SY⟩:=Zsn hm.toR hy hp;split at h
 ·--a slice of the call's own
  rename_i hh ver;simp only[sqOf] at hq;split at h
  case h_2=>simp at h
  rename_i g hg;rw[hg] at hq;simp only at hq;split at h
  case h_2=>simp at h
  rename_i hT;simp only[Yu] at hT;simp only[oinj] at h;subst h;have hub:=ZzT (r:=r) hm.toR hx (q:=q) (by simp only[sqOf,hg];exact hq);have hubA:=ZJL (p:=p) hub;have hbig:(q.l++p.l).length<=most:=ZQk hchk hc hub;split at hq
  case h_2=>simp at hq
  rename_i e he;simp only[oinj] at hq;subst hq;obtain⟨si,hs,hok,rfl⟩:=Zgd hm.toR hx hg;obtain⟨hg1,hg2⟩:=ZV hg;obtain⟨gr,gT,gl,gv,gf,gff,glit,gub⟩:=g;cases e;simp only at hT hg2;subst hT;subst hg2;obtain⟨a,cap,olds,hv,SX,hblk,hnil⟩:=Zsq hok;simp only[EqR.cast,EqR.slc] at*;have hver:si.ver=gv:=hok.ver;rw[hv];have hfin:∀(v':Value) (w':World) (s':SI),(Builtin.append_ #[t,t] ty #[.slice a gl.length cap,.slice b p.l.length cap2]).run P w=.ok v' w'->v'=tipVal s'->s'.ver=gv+1->Step x w w'->
    (MK {x with S:=setN x.S hh s',fz:=x.fz} {s.mem with Sg:=setN s.mem.Sg hh {r:=gr,T:=gT,l:=gl++p.l,ver:=gv+1,fzn:=gf,ffz:=false,lit:=glit&&p.lit,ub:=ubA ⟨glit,false,gl,gub⟩ p}} w'/\Ext x {x with S:=setN x.S hh s',fz:=x.fz})->
    ∃v w' x',(Builtin.append_ #[t,t] ty #[.slice a gl.length cap,.slice b p.l.length cap2]).run P w=.ok v w'/\RV x' (.w (.one (.tip hh (gv+1)))) v/\
     MK x' {s.mem with Sg:=setN s.mem.Sg hh {r:=gr,T:=gT,l:=gl++p.l,ver:=gv+1,fzn:=gf,ffz:=false,lit:=glit&&p.lit,ub:=ubA ⟨glit,false,gl,gub⟩ p}} w'/\Ext x x'/\Step x w w':=by intro v' w' s' hr hv' hs' hst ⟨m1,m2⟩;refine⟨v',w',_,hr,?_,m1,m2,hst⟩;refine .tip _ _ _ s' _ (ZF hs) (by omega) (λ_=>hv') ?_;rw[hv'];unfold tipVal;split<;>trivial
  by_cases h0:p.l=[]
  ·--nothing is appended
   have hl0:p.l.length=0:=by rw[h0];rfl
   refine hfin (tipVal si) w {si with ver:=gv+1} (by rw[hl0,hv];exact ZiC hu hi a b _ cap cap2 SX.hcap) (by unfold tipVal;rfl) rfl (Step.refl x w) ?_;refine hm.setS hg1 hs ⟨by simp[hver],λe=>by simp at e;omega⟩ (Ye _) (λ_ _ _=>rfl) (λ_ _ _ e=>e) (λ_ _ _ _=>rfl) hm.fz (λp' c' e=>.inl ⟨c',e⟩) ?_;refine⟨rfl,by simp[hok.n,h0],hok.wd,hok.nil,λp' c' e=> ?_,hok.fzn,λe=>by simp at e,hubA⟩;obtain⟨C,c1,c2,c3,c4,c5,c6,c7,c8⟩:=hok.row p' c' e;refine⟨C,c1,c2,c3,c4,?_,c6,c7,c8⟩;simp only[h0,Yt];exact λi' j' d hi' hd=>let ⟨u,e1,e2⟩:=c5 i' j' d hi' hd;⟨u,e1,e2.plain (λ_ _ _ e=>e) (R.enc_plain _ _ _ (ZbB hd))⟩
  ·have hpl:0<p.l.length:=List.length_pos_iff.2 h0;have hb:∃bb,b=some bb:=by
    cases b with
    |none=>exact absurd (SY.hnone rfl) h0
    |some bb=>exact⟨bb,rfl⟩
   obtain⟨bb,rfl⟩:=hb;have hnl:news.length=p.l.length*i.size:=by rw[<-hw];exact SY.hlen
   have hnc:=SY.hcell bb rfl;have hbig':gl.length+p.l.length<=most:=by simpa using hbig
   by_cases hroom:gl.length+p.l.length<=cap
   ·--in its place
    cases hbk:si.blk with
    |none=>obtain⟨_,hcap0⟩:=hnil hbk;omega
    |some pc=>
     obtain⟨p0,c0⟩:=pc;obtain⟨ha,hcc⟩:=hblk p0 c0 hbk;subst ha;subst hcc;obtain⟨C,c1,c2,c3,c4,c5,c6,c7,c8⟩:=hok.row p0 cap hbk;simp only at c2 c5 c6 c7 c8;have hn:si.n=gl.length:=hok.n;have hfit:gl.length*i.size+news.length<=C.toArray.size:=by
      have:gl.length*i.size+news.length<=cap*i.size:=by rw[hnl,<-Nat.add_mul];exact YQ _ hroom
      simp only[Yam,c2,hw];exact this
     have hr:=run_append_room (P:=P) w t ty gT i hu hi p0 gl.length cap C.toArray c1 bb p.l.length cap2 news hnl hnc SY.one hroom hfit;have hown:=hm.sown hh si p0 cap hs hbk;have hrow:=setRow_heap w p0 C.toArray (C.take (gl.length*i.size)++news++C.drop (gl.length*i.size+news.length)).toArray gT (0,0) c1;refine hfin _ _ {si with n:=gl.length+p.l.length,ver:=gv+1} hr (by simp only[tipVal,hbk]) rfl ⟨rfl,rfl,rfl,by simp,λk hk=>setRow_other w p0 k _ (λe=>hk (e▸hown.1))⟩ ?_;have hCl:(C.take (gl.length*i.size)).length=gl.length*i.size:=by have:=hfit;simp only[Yam] at this;simp;omega
     have hC1:∀k,k<gl.length*gr.wid->(C.take (gl.length*i.size)++news++C.drop (gl.length*i.size+news.length))[k]? =C[k]? :=by intro k hk;rw[hw] at hk;rw[Yn,Yp (by rw[hCl];exact hk),YI,YZ hk]
     refine hm.setS hg1 hs ⟨by simp[hver],λe=>by simp at e;omega⟩ (by simp) (λk hk hne=>setRow_other w p0 k _ (λe=>hne cap (e▸hbk))) (λ_ _ _ e=>e) (λ_ _ _ _=>rfl) ?_ (λp' c' e=>.inl ⟨c',e⟩) ?_
     ·intro b' o' v' e;by_cases hbe:b'=p0
      ·subst hbe;have ho:o'<si.fc:=by
        rcases Yab o' si.fc with h1|h1
        ·exact h1
        ·rw[c8 o' h1] at e;simp at e
       refine Eq.trans (Zao hrow o') ?_;rw[hC1 o' (by rw[hn] at c6;omega),<-c7 o' ho];exact e
      ·rw[World.cell?_of_block (w:=w) (a:=⟨b',o',none⟩) (setRow_other w p0 b' _ hbe)];exact hm.fz b' o' v' e
     ·refine⟨rfl,by simp,hok.wd,λe=> ?_,λp' c' e=> ?_,hok.fzn,λe=>by simp at e,hubA⟩
      ·have e:si.blk=none:=e;rw[hbk] at e;simp at e
      ·have e:si.blk=some (p',c'):=e;rw[hbk] at e;simp only[oinj,pinj] at e;obtain⟨rfl,rfl⟩:=e;refine⟨_,hrow,?_,hroom,c4,?_,?_,λo ho=> ?_,c8⟩
       ·have:=hfit;simp only[Yam] at this;simp only[Yd,YR,hCl];rw[<-c2];omega
       ·have hlen:∀{k},k<gl.length+p.l.length->k<(gl++p.l).length:=by intro k hk;simpa using hk
        have:=ZsE (y:={x with S:=setN x.S hh {si with n:=gl.length+p.l.length,ver:=gv+1},fz:=x.fz}) (C:=C.take (gl.length*i.size)++news++C.drop (gl.length*i.size+news.length)) (λ_ _ _ e=>e) (λi' j' d hi' hd=>c5 i' j' d (by rw[hn];exact hi') hd) SY.hrow hC1
         (λk hk=>by
          rw[hw] at hk|-;rw[Yn,YU (by rw[hCl];omega),hCl,Yp (by rw[hnl];omega)]
          congr 1;omega)
        exact λi' j' d hi' hd=>this i' j' d (hlen hi') hd
       ·show si.fc<=(gl.length+p.l.length)*gr.wid;rw[hn] at c6;exact Yz c6 (YQ _ (by omega))
       ·rw[hC1 o (by rw[hn] at c6;exact Nat.lt_of_lt_of_le ho c6)];exact c7 o ho
   ·--in a new block
    obtain⟨cap',zs,hr,k1,k2,k3⟩:=ZlD (P:=P) (ty:=ty) hu hi hz hzs hby a gl.length cap olds (by rw[<-hw];exact SX.hlen) SX.hcell (λe=>by
     have:=SX.hnone e;refine⟨by rw[this];rfl,?_⟩;cases hbk:si.blk with
     |none=>exact (hnil hbk).2
     |some pc=>rw[(hblk pc.1 pc.2 hbk).1] at e;simp at e) bb p.l.length cap2 news hnl hnc (by omega) hbig'
    have hos:=ZL.drew_alloc w (.cells (olds++news++zs).toArray gT);refine hfin _ _ {blk:=some (w.heap.size,cap'),na:=none,n:=gl.length+p.l.length,w:=si.w,ver:=gv+1,fc:=0} hr (by simp only[tipVal]) rfl (hos.step hm rfl rfl rfl) ?_;refine hm.setS hg1 hs ⟨by simp[hver],λe=>by simp at e;omega⟩ hos.1 (λk hk _=>hos.2 k hk) (λ_ _ _ e=>e) (λ_ _ _ _=>rfl) (λb' o' v' e=>hos.cell (hm.fz b' o' v' e)) (λp' c' e=>by simp at e;exact .inr (by omega)) ?_;have hol:olds.length=gl.length*gr.wid:=SX.hlen;refine⟨rfl,by simp,hok.wd,λe=>by simp at e,λp' c' e=> ?_,λ_=>rfl,λe=>by simp at e,hubA⟩;simp only[oinj,pinj] at e;obtain⟨rfl,rfl⟩:=e;refine⟨olds++news++zs,heap_alloc_new w.drew _,by rw[hw];exact k3,k1,k2,?_,Yr _,λo ho=>by simp at ho,λo _=>hm.fz_new (Ye _) o⟩;have hlen:∀{k},k<gl.length+p.l.length->k<(gl++p.l).length:=by intro k hk;simpa using hk
    have:=ZsE (y:={x with S:=setN x.S hh {blk:=some (w.heap.size,cap'),na:=none,n:=gl.length+p.l.length,w:=si.w,ver:=gv+1,fc:=0},fz:=x.fz}) (C:=olds++news++zs) (λ_ _ _ e=>e) SX.hrow SY.hrow
     (λk hk=>by rw[Yn,Yp (by omega)])
     (λk hk=>by
      rw[Yn,YU (by omega),Yp (by rw[SY.hlen];omega)]
      congr 1;omega)
    exact λi' j' d hi' hd=>this i' j' d (hlen hi') hd
 ·--another slice,which is full
  rename_i hnt;split at h
  case h_2=>simp at h
  rename_i hfull;obtain⟨a,cap,olds,rfl,SX⟩:=Zsn hm.toR hx hq;have hcap:cap=q.l.length:=SX.hfull hfull;have hbig:(q.l++p.l).length<=most:=by
   have:chk≠some false:=by split at h<;>(simp only[oinj,Zjt,ofSt] at h;subst h;exact hc)
   exact ZQk hchk this (ZzT hm.toR hx hq)
  have hubA:=ZJL (p:=p) (ZzT hm.toR hx hq);have hbig':q.l.length+p.l.length<=most:=by simpa using hbig
  have hol:olds.length=q.l.length*r.wid:=SX.hlen;have fresh:p.l≠[]->∃cap' zs,(Builtin.append_ #[t,t] ty #[.slice a q.l.length cap,.slice b p.l.length cap2]).run P w=.ok (.slice (some ⟨w.heap.size,0,none⟩) (q.l.length+p.l.length) cap') (w.drew.alloc (.cells (olds++news++zs).toArray elem))/\
    q.l.length+p.l.length<=cap'/\cap'<=maxLen/\(olds++news++zs).length=cap'*r.wid/\
    ∀y,FzLe x y->∀i' j' d,i'<(q.l++p.l).length->nth (elN r (q.l++p.l) i') j'=some d->∃u,(olds++news++zs)[i'*r.wid+j']? =some u/\RA (Ctx.bare y) d u:=by
   intro h0;have hpl:0<p.l.length:=List.length_pos_iff.2 h0;have hb:∃bb,b=some bb:=by
    cases b with
    |none=>exact absurd (SY.hnone rfl) h0
    |some bb=>exact⟨bb,rfl⟩
   obtain⟨bb,rfl⟩:=hb
   obtain⟨cap',zs,hr,k1,k2,k3⟩:=ZlD (P:=P) (ty:=ty) hu hi hz hzs hby a q.l.length cap olds (by rw[<-hw];exact SX.hlen) SX.hcell (λe=>by
    have:=SX.hnone e
    exact⟨by rw[this];rfl,by rw[hcap,this];rfl⟩) bb p.l.length cap2 news (by rw[<-hw];exact SY.hlen) (SY.hcell bb rfl) (by omega) hbig'
   refine⟨cap',zs,hr,k1,k2,by rw[hw];exact k3,λy hy=> ?_⟩;exact ZsE (y:=y) (C:=olds++news++zs) hy SX.hrow SY.hrow
     (λk hk=>by rw[Yn,Yp (by omega)])
     (λk hk=>by
      rw[Yn,YU (by omega),Yp (by rw[SY.hlen];omega)]
      congr 1;omega)
  have hsl:=hm.sl;split at h
  ·--a slice of the call's own from now on
   rename_i hflag;simp only[Zjt,oinj] at h;subst h;have tipOk:∀(s':SI) (v':Value),v'=tipVal s'->s'.ver=0->RV {x with S:=x.S++[s']} (.w (.one (.tip (len s.mem.Sg) 0))) v':=by intro s' v' hv' h0;refine .tip _ _ _ s' _ ?_ (Yr _) (λ_=>hv') (by rw[hv'];unfold tipVal;split<;>trivial);rw[Zaj,<-hsl,Zo];simp
   by_cases h0:p.l=[]
   ·have hq0:q.l=[]:=by simp only[h0,Zve,Yf,Yag,Yy,Yc] at hflag;exact ZOY.1 hflag.2
    have hl0:p.l.length=0:=by rw[h0];rfl
    have hc0:cap=0:=by rw[hcap,hq0];rfl
    have hql:q.l.length=0:=by rw[hq0];rfl
    obtain⟨m1,m2⟩:=hm.addS (s:={blk:=none,na:=a,n:=0,w:=r.wid,ver:=0,fc:=0}) (g:={r:=r,T:=elem,l:=q.l++p.l,ver:=0,fzn:=false,ffz:=false,lit:=q.lit&&p.lit,ub:=ubA q p}) (ZL.refl w) (λp' c' e=>by simp at e)
     ⟨rfl,by simp[h0,hq0],rfl,λ_=>⟨rfl,rfl⟩,λp' c' e=>by simp at e,λ_=>rfl,λe=>by simp at e,hubA⟩
    exact⟨_,w,_,by rw[hl0];exact ZiC hu hi a b _ cap cap2 SX.hcap,tipOk _ _ (by simp[tipVal,hql,hc0]) rfl,m1,m2,Step.refl x w⟩
   ·obtain⟨cap',zs,hr,k1,k2,k3,k4⟩:=fresh h0;have hos:=ZL.drew_alloc w (.cells (olds++news++zs).toArray elem);obtain⟨m1,m2⟩:=hm.addS (s:={blk:=some (w.heap.size,cap'),na:=none,n:=q.l.length+p.l.length,w:=r.wid,ver:=0,fc:=0}) (g:={r:=r,T:=elem,l:=q.l++p.l,ver:=0,fzn:=false,ffz:=false,lit:=q.lit&&p.lit,ub:=ubA q p}) hos (λp' c' e=>by simp at e;omega)
     (by
      refine⟨rfl,by simp,rfl,λe=>by simp at e,λp' c' e=> ?_,λ_=>rfl,λe=>by simp at e,hubA⟩;simp only[oinj,pinj] at e;obtain⟨rfl,rfl⟩:=e;have hlen:∀{k},k<q.l.length+p.l.length->k<(q.l++p.l).length:=by intro k hk;simpa using hk
      exact⟨olds++news++zs,heap_alloc_new w.drew _,k3,k1,k2,λi' j' d hi' hd=>k4 _ (λ_ _ _ e=>e) i' j' d (hlen hi') hd,Yr _,λo ho=>by simp at ho,λo _=>hm.fz_new (Ye _) o⟩)
    exact⟨_,_,_,hr,tipOk _ _ (by simp[tipVal]) rfl,m1,m2,hos.step hm rfl rfl rfl⟩
  ·--nobody's
   simp only[ofSt,oinj] at h;subst h;by_cases h0:p.l=[]
   ·have hl0:p.l.length=0:=by rw[h0];rfl
    refine⟨_,w,x,by rw[hl0];exact ZiC hu hi a b _ cap cap2 SX.hcap,?_,hm,Ext.refl x,Step.refl x w⟩;show RA x (.lst r (q.lit&&p.lit) false false (q.l++p.l)) _;rw[h0,Yt];unfold sqOf at hq;cases xa with
    |nilsl=>
     simp only[oinj] at hq;subst hq;exact RA.nil_lst hx
    |lst r' lit full nn l=>
     simp only at hq;split at hq
     ·rename_i e _;simp only[oinj] at hq;subst hq;cases e;exact RA.lst_weak hx (λe=>by simp at e) (λe=>by simp at e)
     ·simp at hq
    |tip h ver=>exact absurd rfl (hnt h ver)
    |_=>simp at hq
   ·obtain⟨cap',zs,hr,k1,k2,k3,k4⟩:=fresh h0;have hm':=hm.old (ZL.drew w);obtain⟨m1,m2⟩:=hm'.frzNew (olds++news++zs) elem;refine⟨_,_,_,hr,?_,m1,m2,(ZL.drew_alloc w _).step hm rfl rfl rfl⟩;have hle:=m2.fz;have:=ZeX (y:={x with fz:=λb o=>if b=w.drew.heap.size then (olds++news++zs)[o]? else x.fz b o}) (r:=r) (l:=q.l++p.l) (C:=olds++news++zs) (p:=w.heap.size) (cap:=cap') (lit:=q.lit&&p.lit) (full:=false) (nn:=false)
     (by simpa using k1) (by simp only[maxLen,most,Yd] at*;omega) (λe=>by simp at e) (λk u e=>(YZ rfl).trans e) (λi' j' d hi' hd=>k4 _ (λb o v e=>hle b o v e) i' j' d hi' hd)
    rw[Yd] at this;exact this
end Go.S3
namespace Go.S3
section
variable {P:Program}
variable {w:World} {t:TypeId}
theorem ZhN {b:Bool} (h:aggT P t=some b):(isAgg t).run P w=.ok b w:=by
 unfold aggT at h;split at h
 ·rename_i d hd;simp only[oinj] at h;subst h;simp[isAgg,run_underlying hd]
 ·rename_i d n hd;simp only[oinj] at h;subst h;simp[isAgg,run_underlying hd]
 ·rename_i d hd h1 h2;simp only[oinj] at h;subst h;have hu:=run_underlying (P:=P) (w:=w) h2;cases d<;>first|(exact absurd h2 (by assumption))|(exact absurd h2 (by solve_by_elim))|simp[isAgg,hu]
 ·simp at h
variable {n:Nat}
theorem ZbX (h:Zkm P t=some n):(sizeOf t).run P w=.ok n w:=by simp only[Zkm,YB] at h;obtain⟨i,h1,h2⟩:=h;simp[sizeOf,typeInfo,h1,h2]
variable {l:List A}
theorem Zee {x:Ctx} (h:Zqk P t=some l):∃z:Value,(∀w,(zeroValue t).run P w=.ok z w)/\RL x l z.cells.toList:=by
 unfold Zqk at h;split at h
 ·rename_i z hz;rw[Yan] at hz h;obtain⟨i,h1,h2⟩:=hz;obtain⟨y,h3,h4⟩:=h;exact⟨z,λw=>by simp[zeroValue,typeInfo,h1,h2],W.cells_ok (Zry x h3) h4⟩
 ·simp at h
variable {off:Nat} {y:W} {C:List Value}
theorem ZRM {x:Ctx} (h:Zqp P t l off=some y) (hl:RL x l C):
  ∃v,(∀w,(part t C.toArray off).run P w=.ok v w)/\RW x y v:=by
 unfold Zqp at h;split at h
 ·rename_i n hg hn;rw[YB] at h;obtain⟨r,h1,h2⟩:=h;subst h2;obtain⟨h3,h4⟩:=Zhn _ _ _ h1;rw[ZcZ] at h3 h4;refine⟨.agg ((C.drop off).take n).toArray,λw=>by simp[part,ZhN hg,ZbX hn],(C.drop off).take n,rfl,?_⟩;subst h3;exact (hl.drop off).take n
 ·rename_i n hg hn;rw[YB] at h;obtain⟨r,h1,h2⟩:=h;subst h2;obtain⟨v,h3,h4⟩:=hl.nth _ _ h1;exact⟨v,λw=>by simp[part,ZhN hg,h3],h4⟩
 ·simp at h
variable {m:Mem} {p:A} {v:Value}
theorem ZrQ {x:Ctx} (h:MemR x m w) (hp:RA x p v) (hl:Zf7 m p=some l):
  ∃q o,v=.pointer (some ⟨q,o,none⟩)/\∀j a,nth l j=some a->∃u,w.cell? ⟨q,o+j,none⟩=some u/\RA x a u:=by
 cases p with
 |loc b o=>
  simp only[Zf7] at hl;cases hp with
  |loc _ _ _ q hq=>
   rw[YB] at hl;obtain⟨c,h1,h2⟩:=hl;subst h2;obtain⟨q',C,T,h0,h3,h4⟩:=h.box b c h1;have:q'=q:=by rw[hq] at h0;simpa using h0.symm
   subst this;refine⟨q',o,rfl,λj a ha=> ?_⟩;rw[ZcZ,Zo,YN,<-Zo] at ha;obtain⟨u,h5,h6⟩:=h4.nth _ _ ha;exact⟨u,by rw[Zao h3];exact h5,h6⟩
 |fp l'=>
  simp only[Zf7,oinj] at hl;subst hl;cases hp with
  |fp _ _ q o c hf hr=>
   refine⟨q,o,rfl,λj a ha=>⟨c j,h.fz _ _ _ (hf j a ha),(hr j a ha).mono ⟨rfl,?_,?_,λ_ _ _ e=>e,λ_ _ _ e=>.inl e⟩⟩⟩
   ·intro b p e;simp[Ctx.bare,Zr] at e
   ·intro b p e;simp[Ctx.bare,Zr] at e
 |sp hh ver i o=>
  simp only[Zf7] at hl;split at hl
  ·rename_i g hg;simp only[oinj] at hl;subst hl;obtain⟨s,q,cap,hs,hok,hb,h0,hi,rfl⟩:=ZQ1 h hp hg;obtain⟨C,c1,c2,c3,c4,c5,c6,c7,c8⟩:=hok.row q cap hb;refine⟨q,_,rfl,λj a ha=> ?_⟩;rw[ZcZ,Zo,YN,<-Zo] at ha;obtain⟨u,e1,e2⟩:=c5 i.toNat (o+j) a (by rw[hok.n];exact hi) ha;refine⟨u,by rw[Zao c1,Yaq];exact e1,e2.plain (λ_ _ _ e=>e) (R.enc_plain _ _ _ (ZbB ha))⟩
  ·simp at hl
 |_=>simp[Zf7] at hl
theorem ZF6 {x:Ctx} (h:MemR x m w) (hp:RA x p v) (hl:ZyN P m t p=some y):
  ∃u,(∀w',ZL w w'->(Instr.loadAt t v).run P w'=.ok u w')/\RW x y u:=by
 unfold ZyN at hl;split at hl
 ·rename_i l hc;obtain⟨q,o,rfl,hcell⟩:=ZrQ h hp hc;unfold Zqp at hl;split at hl
  ·rename_i n hg hn;rw[YB] at hl;obtain⟨r,h1,h2⟩:=hl;subst h2;obtain⟨h3,h4⟩:=Zhn _ _ _ h1;simp only[Zdq] at h3 h4;have hex:∀j,j<n->∃u,w.cell? ⟨q,o+j,none⟩=some u/\∀a,nth l j=some a->RA x a u:=by
    intro j hj;have:∃a,nth l j=some a:=by rw[Zo];exact⟨_,Yh (by omega)⟩
    obtain⟨a,ha⟩:=this;obtain⟨u,h5,h6⟩:=hcell j a ha;exact⟨u,h5,λa' ha'=>by rw[ha] at ha';simp only[oinj] at ha';exact ha'▸h6⟩
   let f:Nat->Value:=λj=>(w.cell? ⟨q,o+j,none⟩).getD undef
   have hf:∀j,j<n->w.cell? ⟨q,o+j,none⟩=some (f j):=λj hj=>by obtain⟨u,h5,_⟩:=hex j hj;simp[f,h5]
   have hrun:=fun (w':World) (hw':ZL w w')=>run_loadCells (P:=P) w' ⟨q,o,none⟩ n f (λj hj=>by rw[Zd4];exact hw'.cell (hf j hj))
   refine⟨.agg ((List.range n).map f).toArray,λw' hw'=>by simp[Instr.loadAt,Instr.sureAddr,loadVar,ZhN hg,ZbX hn,hrun w' hw'],_,rfl,?_⟩;subst h3;refine RL.of_nth (by simp;omega) λj a ha=> ?_
   have hj:j<n:=by have:=Z9 ha;simp at this;omega
   refine⟨f j,by simp[hj],?_⟩;obtain⟨u,h5,h6⟩:=hex j hj;have:f j=u:=by simp[f,h5]
   rw[this];refine h6 a ?_;rw[Zo,YI,YZ hj] at ha;rw[Zo];exact ha
  ·rename_i n hg hn;rw[YB] at hl;obtain⟨r,h1,h2⟩:=hl;subst h2;obtain⟨u,h3,h4⟩:=hcell 0 r h1;exact⟨u,λw' hw'=>by simp[Instr.loadAt,Instr.sureAddr,loadVar,ZhN hg,go_sem,show w'.cell? ⟨q,o,none⟩=some u from hw'.cell h3],h4⟩
  ·simp at hl
 ·simp at hl
def ZZO (P:Program) (a:Act) (o:Oper) (w:World) (v:Value) (w':World):Prop:=
 (execOp a.eval o).run P w=.ok (.value v) w'\/((execOp a.eval o).run P w=.ok .skip w'/\v=undef)
theorem Zlx {f:Nat} {fd:Field} (h:Zvl P t f=some fd):∃fs,P.underlying t=some (.struct fs)/\fs[f]? =some fd:=by
 unfold Zvl at h;split at h
 ·exact⟨_,by assumption,h⟩
 ·simp at h
theorem ZSD {x:Ctx} (hm:MemR x m w) {r:A} (hp:RA x p v) (h:ZIG m p n=some r):∃q o:Nat,v=.pointer (some ⟨q,o,none⟩)/\RA x r (.pointer (some ⟨q,o+n,none⟩)):=by
 cases p with
 |loc b o=>
  simp only[ZIG,oinj] at h;subst h;cases hp with
  |loc _ b o q hq=>exact⟨q,o,rfl,.loc _ _ _ _ hq⟩
 |fp l=>
  simp only[ZIG,oinj] at h;subst h;cases hp with
  |fp _ _ q o c hf hr=>
   refine⟨q,o,rfl,.fp _ _ _ _ (λj=>c (n+j)) (λj a ha=> ?_) (λj a ha=> ?_)⟩
   ·rw[ZcZ,Zo,YN,<-Zo] at ha;rw[Yaq];exact hf _ _ ha
   ·rw[ZcZ,Zo,YN,<-Zo] at ha;exact hr _ _ ha
 |sp hh ver i o=>
  simp only[ZIG] at h;split at h
  ·rename_i g hg;simp only[oinj] at h;subst h;obtain⟨s,q,cap,hs,hok,hb,h0,hi,rfl⟩:=ZQ1 hm hp hg;obtain⟨hg1,hg2⟩:=ZV hg;refine⟨q,_,rfl,.sp _ _ _ _ _ s _ hs (by rw[hok.ver,hg2];exact Ye _) (λ_=>⟨q,cap,hb,h0,by rw[hok.n];exact hi,?_⟩) trivial⟩;rw[hok.wd,Yaq]
  ·simp at h
 |_=>simp[ZIG] at h
theorem ZPo (l:List Value):∀(k off:Nat) (C:List Value),off+k+l.length<=C.length->
  (l.zipIdx k).foldl (λcs p=>cs.setIfInBounds (off+p.2) p.1) C.toArray=(C.take (off+k)++l++C.drop (off+k+l.length)).toArray:=by
 induction l with
 |nil=>intro k off C _;simp
 |cons v l ih=>
  intro k off C hk;simp only[List.length_cons] at hk;simp only[List.zipIdx_cons,List.foldl_cons];rw[List.setIfInBounds_toArray,ih (k+1) off (C.set (off+k) v) (by simp;omega)];congr 1;have hlt:off+k<C.length:=by omega
  have e1:(C.set (off+k) v).take (off+(k+1))=C.take (off+k)++[v]:=by rw[<-Nat.add_assoc,List.take_succ_eq_append_getElem (by simpa using hlt)];simp[List.take_set_of_le]
  rw[e1,List.drop_set_of_lt (by omega)];simp[Yaq,YaQ 1]
theorem ZjO {x:Ctx} (pl:Nat->Option (Nat×Nat)):∀(ps:List (Nat×Option (List A))) (vs:List (Nat×Value)) (l r:List A) (C:List Value),
  ps.map (·.1)=vs.map (·.1)->(∀i c v,nth ps i=some c->nth vs i=some v->∀k,c.2=some k->RL x k v.2.cells.toList)->RL x l C->ZpU pl l ps=some r->
  ∃D:List Value,Instr.fill pl C.toArray vs=some D.toArray/\RL x r D
 |[],[],l,r,C,_,_,hl,h=>by simp only[ZpU,oinj] at h;subst h;exact⟨C,rfl,hl⟩
 |(i,k)::ps,(i',v)::vs,l,r,C,hi,hv,hl,h=>by
  simp only[YaW,Ya0] at hi;obtain⟨rfl,hi⟩:=hi;simp only[ZpU] at h;split at h
  ·rename_i off size l' hpl;split at h
   ·simp at h
   ·rename_i hbeq;simp only[Yc,Yu,Yad] at hbeq;split at h
    ·rename_i c hput;have hk:=hv 0 _ _ rfl rfl l' rfl;have hkl:=hk.length;have hll:=hl.length;rw[Zaj] at hbeq;obtain⟨e1,e2⟩:=Zje hput;have hne:l'≠[]:=by rintro rfl;simp at hbeq;omega
     have hin:=e2 hne;obtain⟨D,h1,h2⟩:=ZjO pl ps vs c r (C.take off++v.cells.toList++C.drop (off+v.cells.toList.length)) hi (λj c v h1 h2=>hv (j+1) c v h1 h2)
      (by rw[e1,hkl];exact ((hl.take off).append hk).append (hl.drop _)) h
     refine⟨D,?_,h2⟩;rw[<-h1];have hsz:v.cells.size=size:=by rw[<-hbeq.1,hkl];simp
     have hfit:off+v.cells.size<=C.length:=by rw[hkl] at hin;simp at hin;omega
     simp only[Instr.fill,hpl];rw[Y3 (by simp;exact⟨hsz,hfit⟩)];have:=ZPo v.cells.toList 0 off C (by simpa using hfit);simp only[Nat.add_zero] at this;rw[<-this,<-Array.foldl_toList];simp
    ·simp at h
  ·simp at h
 |[],_::_,_,_,_,h,_,_,_=>by simp at h
 |_::_,[],_,_,_,h,_,_,_=>by simp at h
end
variable {P:Program}
theorem ZiX (n:Nat):∀(m:Nat) (l:List A) (rows:List (List A)),Znf n m l=some rows->
  rows.length=m/\∀j y,nth rows j=some y->y=(l.drop (j*n)).take n/\y.length=n
 |0,l,rows,h=>by simp only[Znf,oinj] at h;subst h;exact⟨rfl,λj y e=>by cases j<;>simp[nth] at e⟩
 |m+1,l,rows,h=>by
  simp only[Znf] at h;split at h
  ·simp at h
  ·rename_i y hy;split at h
   ·rename_i r hr;simp only[oinj] at h;subst h;obtain⟨h1,h2⟩:=ZiX n m _ _ hr;obtain⟨h3,h4⟩:=Zhn _ _ _ hy;refine⟨by simp[h1],λj y' e=> ?_⟩;cases j with
    |zero=>simp only[nth,oinj] at e;subst e;simp[h3];omega
    |succ j=>
     simp only[nth] at e;obtain⟨h5,h6⟩:=h2 j y' e;refine⟨?_,h6⟩;rw[h5,ZcZ,List.drop_drop];congr 2;rw[Nat.succ_mul,YaQ]
   ·simp at h
theorem Ztq {nb:Nat} {x:Ctx} (hx:∀c,Cut nb tip1 c x x) {i:Int}:∀(rows:List (List A)) (k:Nat) (z:List A) (R:List Value),
  ZHl nb i k rows=some z->(k:Int)<=i->i<(k:Int)+rows.length->(∀y,nth rows (i-k).toNat=some y->RL x y R)->RL x z R
 |[],k,z,R,h,_,_,_=>by simp[ZHl] at h
 |[y],k,z,R,h,h1,h2,h3=>by
  simp only[ZHl,oinj] at h;subst h;simp at h2
  exact h3 _ (by
   have:(i-k).toNat=0:=by omega
   rw[this];rfl)
 |y::y'::r,k,z,R,h,h1,h2,h3=>by
  simp only[ZHl] at h;split at h
  ·rename_i z' hz;refine ZXd (hx _) h ?_;by_cases hi:i=k
   ·have:(i==(k:Int))=true:=by simp[hi]
    rw[this]
    exact h3 _ (by
     have:(i-k).toNat=0:=by omega
     rw[this];rfl)
   ·have:(i==(k:Int))=false:=by simp[hi]
    rw[this];refine Ztq hx (y'::r) (k+1) z' R hz (by omega) (by simp at h2|-;omega) λq hq=>h3 q ?_
    have e:(i-k).toNat=(i-((k+1:Nat):Int)).toNat+1:=by omega
    rw[e];exact hq
  ·simp at h
theorem ZRL {x:Ctx} {t:TypeId} {g:Bool} {n off:Nat} {y:List A} {C:List Value} (hg:aggT P t=some g) (hn:Zkm P t=some n)
  (hl:RL x y ((C.drop off).take n)) (hlen:y.length=n):
  (g=true->∃v,(∀w,(part t C.toArray off).run P w=.ok v w)/\RW x (.agg y) v)/\(g=false->∀a,y=[a]->∃v,(∀w,(part t C.toArray off).run P w=.ok v w)/\RA x a v):=by
 refine⟨?_,?_⟩
 ·rintro rfl;exact⟨.agg ((C.drop off).take n).toArray,λw=>by simp[part,ZhN hg,ZbX hn],_,rfl,hl⟩
 ·rintro rfl a rfl;simp at hlen;subst hlen;obtain⟨v,h1,h2⟩:=hl.nth 0 a rfl;simp at h1;exact⟨v,λw=>by simp[part,ZhN hg,h1],h2⟩
theorem ZO6 {x:Ctx} {s:St} {t:TypeId} {l:List A} {i:A} {r:Res} {va vi:Value} (ha:RW x (.agg l) va) (hi:RA x i vi)
  (h:Zy0 P s t l i=some r) (hc:r.chk≠some false):r.m=s.mem/\r.bd=s.bd/\r.sd=s.sd/\∃v,(∀w,(Instr.index t va vi).run P w=.ok v w)/\RV x r.v v:=by
 unfold Zy0 at h;obtain⟨C,rfl,hC⟩:=ha;have hcut:∀c,Cut (len s.mem.Bx) tip1 c x x:=λc=>Cut.refl _ c x
 split at h
 ·rename_i m elem lit ik iv hu;obtain⟨rfl,hir⟩:=ZcX hi;split at h
  ·rename_i g n hg hn;split at h
   ·simp at h
   ·rename_i rows hrows;obtain⟨hlen,hrow⟩:=ZiX n m l rows hrows;have key:∀y:List A,0<=iv->iv<(m:Int)->RL x y ((C.drop (iv.toNat*n)).take n)->y.length=n->
      (g=true->∃v,(∀w,(Instr.index t (.agg C.toArray) (.int ik iv)).run P w=.ok v w)/\RW x (.agg y) v)/\
      (g=false->∀a,y=[a]->∃v,(∀w,(Instr.index t (.agg C.toArray) (.int ik iv)).run P w=.ok v w)/\RA x a v):=by
     intro y h0 h1 hy hyl;have hr:∀v,(∀w,(part elem C.toArray (iv.toNat*n)).run P w=.ok v w)->∀w,(Instr.index t (.agg C.toArray) (.int ik iv)).run P w=.ok v w:=by intro v hv w;simp[Instr.index,asIntOf,run_underlying hu,h0,h1,ZbX hn,hv w]
     obtain⟨p1,p2⟩:=ZRL (P:=P) (off:=iv.toNat*n) hg hn hy hyl;exact⟨λe=>let ⟨v,q1,q2⟩:=p1 e;⟨v,hr v q1,q2⟩,λe a ea=>let ⟨v,q1,q2⟩:=p2 e a ea;⟨v,hr v q1,q2⟩⟩
    have rowRL:∀y,nth rows iv.toNat=some y->RL x y ((C.drop (iv.toNat*n)).take n)/\y.length=n:=by intro y hy;obtain⟨e1,e2⟩:=hrow _ _ hy;exact⟨e1▸(hC.drop _).take _,e2⟩
    split at h
    ·split at h
     ·simp at h
     ·rename_i hb;simp only[Yk] at hb;split at h
      ·simp at h
      ·rename_i y hy;obtain⟨q1,q2⟩:=rowRL y hy;obtain⟨k1,k2⟩:=key y hb.1 hb.2 q1 q2;split at h
       ·simp only[valR,oinj] at h;subst h;exact⟨rfl,rfl,rfl,k1 rfl⟩
       ·simp only[valR,oinj] at h;subst h;exact⟨rfl,rfl,rfl,k2 rfl _ rfl⟩
       ·simp at h
    ·split at h
     ·simp at h
     ·rename_i y hy;have hb:∀{b:Bool},some b≠some false->b=true:=by intro b;cases b<;>simp
      split at h
      ·simp only[oinj] at h;subst h;have hb':=hb hc;simp only[Yk] at hb';have hex:∃y',nth rows iv.toNat=some y':=by rw[Zo];exact⟨_,Yh (by omega)⟩
       obtain⟨y',hy'⟩:=hex;obtain⟨q1,q2⟩:=rowRL y' hy'
       have hz:=Ztq hcut rows 0 y _ hy (by simpa using hb'.1) (by simp[hlen,hb'.2]) (λq hq=>by simp only[Int.natCast_zero,Int.sub_zero] at hq;exact (rowRL q hq).1)
       have hzl:y.length=n:=by rw[hz.length,<-q1.length,q2]
       exact⟨rfl,rfl,rfl,(key y hb'.1 hb'.2 hz hzl).1 rfl⟩
      ·simp only[oinj] at h;subst h;have hb':=hb hc;simp only[Yk] at hb';have hex:∃y',nth rows iv.toNat=some y':=by rw[Zo];exact⟨_,Yh (by omega)⟩
       obtain⟨y',hy'⟩:=hex;obtain⟨q1,q2⟩:=rowRL y' hy'
       have hz:=Ztq hcut rows 0 _ _ hy (by simpa using hb'.1) (by simp[hlen,hb'.2]) (λq hq=>by simp only[Int.natCast_zero,Int.sub_zero] at hq;exact (rowRL q hq).1)
       have hzl:=hz.length;rw[<-q1.length,q2] at hzl;exact⟨rfl,rfl,rfl,(key _ hb'.1 hb'.2 hz hzl).2 rfl _ rfl⟩
      ·simp at h
  ·simp at h
 ·simp at h
theorem RWs.nth {x:Ctx}:∀{l:List W} {vs:List Value},RWs x l vs->∀(j:Nat) (a:W),nth l j=some a->∃v,vs[j]? =some v/\RW x a v
 |[],[],_,j,a,e=>by simp[S3.nth] at e
 |b::l,v::r,h,0,a,e=>by simp[S3.nth] at e;subst e;exact⟨v,by simp,h.1⟩
 |b::l,v::r,h,j+1,a,e=>by simp only[S3.nth] at e;simpa using RWs.nth h.2 j a e
 |[],_::_,h,_,_,_=>h.elim
 |_::_,[],h,_,_,_=>h.elim
theorem Zfm (s:St):∀l:List (Nat×Operand),(Zeq s l).map (·.1)=l.map (·.1)
 |[]=>rfl
 |(i,x)::l=>by simp[Zeq,Zfm s l]
theorem ZgR {x:Ctx} {s:St} {a:Act} (hf:RF x s.Sl a.tmps):∀(l:List (Nat×Operand)) (i:Nat) (c:Nat×Option (List A)) (v:Nat×Value),nth (Zeq s l) i=some c->
  nth (l.map λp=>(p.1,a.eval p.2)) i=some v->∀k,c.2=some k->RL x k v.2.cells.toList
 |[],i,c,v,h,_=>by simp[Zeq,nth] at h
 |(j,y)::l,0,c,v,h,h'=>by simp only[Zeq,nth,oinj] at h;simp only[YaW,nth,oinj] at h';subst h;subst h';intro k hk;exact ZuT hf hk
 |(j,y)::l,i+1,c,v,h,h'=>by simp only[Zeq,nth] at h;simp only[YaW,nth] at h';exact ZgR hf l i c v h h'
theorem ZqU {w:World}:∀(l:List Field) (r:List (Nat×Nat)),Zwt P l=some r->
  (l.mapM (λf=>Prod.mk f.offset<$>sizeOf f.type)).run P w=.ok r w
 |[],r,h=>by simp only[Zwt,oinj] at h;subst h;simp
 |f::l,r,h=>by
  simp only[Zwt] at h;split at h
  ·rename_i n r' hn hr;simp only[oinj] at h;subst h;have ih:=ZqU (w:=w) l r' hr;rw[List.mapM_cons];simp only[Sem.run_bind,Sem.run_map,ZbX hn,Result.andThen_ok,ih,Sem.run_pure]
  ·simp at h
theorem ZTp {x:Ctx} {s:St} {a:Act} (hf:RF x s.Sl a.tmps) {t:TypeId} {parts:Array (Nat×Operand)} {z l:List A} {pl:Nat->Option (Nat×Nat)}
  (hz:Zqk P t=some z) (hpl:Zte P t=some pl) (hfill:ZpU pl z (Zeq s parts.toList)=some l):
  ∃v,(∀w,(Instr.build t (parts.map λp=>(p.1,a.eval p.2))).run P w=.ok v w)/\RW x (.agg l) v:=by
 obtain⟨zv,hzr,hzl⟩:=Zee (P:=P) (x:=x) hz;have hfst:=Zfm s parts.toList;have hn:=ZgR hf parts.toList;unfold Zte at hpl;split at hpl
 ·rename_i fs hu;split at hpl
  ·rename_i L hL;simp only[oinj] at hpl;subst hpl;obtain⟨D,h1,h2⟩:=ZjO (x:=x) (nth L) _ (parts.toList.map λp=>(p.1,a.eval p.2)) z l zv.cells.toList (by rw[hfst];simp[Function.comp_def]) hn hzl hfill;have hrun:=λw=>ZqU (P:=P) (w:=w) fs.toList L hL
   have hpl:nth L=λi=>L.toArray[i]? :=by funext i;rw[Zo];simp
   rw[hpl] at h1;refine⟨.agg D.toArray,λw=> ?_,D,rfl,h2⟩;simp at h1;simp[Instr.build,hzr,run_underlying hu,Array.mapM_eq_mapM_toList,hrun,h1]
  ·simp at hpl
 ·rename_i m elem hu;split at hpl
  ·rename_i n hn';simp only[oinj] at hpl;subst hpl;obtain⟨D,h1,h2⟩:=ZjO (x:=x) (λi=>some (i*n,n)) _ (parts.toList.map λp=>(p.1,a.eval p.2)) z l zv.cells.toList (by rw[hfst];simp[Function.comp_def]) hn hzl hfill;refine⟨.agg D.toArray,λw=> ?_,D,rfl,h2⟩;simp at h1;simp[Instr.build,hzr,run_underlying hu,ZbX hn',h1]
  ·simp at hpl
 ·simp at hpl
end Go.S3
namespace Go.S3
inductive RLit:A->Lit->Prop
 |bool (f b:Bool):RLit (.bool f b) (.bool b)
 |int (f:Bool) (k:IntKind) (n:Int):RLit (.int f k n) (.int k n)
def Zlh:List A->List Lit->Prop
 |[],[]=>True
 |a::l,b::r=>RLit a b/\Zlh l r
 |_,_=>False
theorem Zlh.append:∀{l l':List A} {r r':List Lit},Zlh l r->Zlh l' r'->Zlh (l++l') (r++r')
 |[],_,[],_,_,h=>h
 |_::_,_,_::_,_,h,h'=>⟨h.1,Zlh.append h.2 h'⟩
 |[],_,_::_,_,h,_=>h.elim
 |_::_,_,[],_,h,_=>h.elim
theorem ZPy:∀{l r:List A} {a b:List Lit} {e:Bool},eqL l r=some e->Zlh l a->Zlh r b->(e=true↔a=b)
 |[],[],a,b,e,h,ha,hb=>by
  simp only[eqL,oinj] at h;subst h;cases a with
  |nil=>cases b with
   |nil=>simp
   |cons _ _=>exact hb.elim
  |cons _ _=>exact ha.elim
 |x::l,y::r,a,b,e,h,ha,hb=>by
  cases a with
  |nil=>exact ha.elim
  |cons p a=>
   cases b with
   |nil=>exact hb.elim
   |cons q b=>
    simp only[eqL] at h;split at h
    ·rename_i e' he;split at h
     ·rename_i hk;have:=ZdY hk;subst this;simp only[oinj] at h;subst h;have ih:=ZPy he ha.2 hb.2;cases ha.1;cases hb.1;simp[ih]
     ·simp at h
    ·rename_i e' he;simp only[oinj] at h;subst h;have ih:=ZPy he ha.2 hb.2;cases ha.1;cases hb.1;simp[ih]
    ·simp at h
 |[],_::_,_,_,_,h,_,_=>by simp[eqL] at h
 |_::_,[],_,_,_,h,_,_=>by simp[eqL] at h
variable {P:Program} {x:Ctx}
theorem ZrE {d:Nat} (ih:∀(t:TypeId) (l k:List A) (C:List Value),klT P d t l=some k->RL x l C->∃L,P.keyLits d t C=some L/\Zlh k L) {l:List A} {C:List Value} (hl:RL x l C):
  ∀(fs:List Field) (k:List A),ZpA (klT P d) P.cellsOf l fs=some k->∃Ls,(fs.mapM λf=>P.keyLits d f.type ((C.drop f.offset).take (P.cellsOf f.type)))=some Ls/\Zlh k Ls.flatten
 |[],k,h=>by simp only[ZpA,oinj] at h;subst h;exact⟨[],by simp,Tv⟩
 |f::fs,k,h=>by
  simp only[ZpA] at h;split at h
  ·rename_i a b ha hb;simp only[oinj] at h;subst h;obtain⟨Ls,h1,h2⟩:=ZrE ih hl fs b hb;rw[ZdG,ZcZ] at ha;obtain⟨L,h3,h4⟩:=ih _ _ _ ((C.drop f.offset).take (P.cellsOf f.type)) ha ((hl.drop _).take _);exact⟨L::Ls,by simp[List.mapM_cons,h3,h1],by simpa using h4.append h2⟩
  ·simp at h
theorem ZyV {d:Nat} {e:TypeId} (ih:∀(l k:List A) (C:List Value),klT P d e l=some k->RL x l C->∃L,P.keyLits d e C=some L/\Zlh k L) {l:List A} {C:List Value} (hl:RL x l C):
  ∀(is:List Nat) (k:List A),ZyW (klT P d e) (P.cellsOf e) l is=some k->∃Ls,(is.mapM λi=>P.keyLits d e ((C.drop (i*P.cellsOf e)).take (P.cellsOf e)))=some Ls/\Zlh k Ls.flatten
 |[],k,h=>by simp only[ZyW,oinj] at h;subst h;exact⟨[],by simp,Tv⟩
 |f::fs,k,h=>by
  simp only[ZyW] at h;split at h
  ·rename_i a b ha hb;simp only[oinj] at h;subst h;obtain⟨Ls,h1,h2⟩:=ZyV ih hl fs b hb;rw[ZdG,ZcZ] at ha;obtain⟨L,h3,h4⟩:=ih _ _ ((C.drop (f*P.cellsOf e)).take (P.cellsOf e)) ha ((hl.drop _).take _);exact⟨L::Ls,by simp[List.mapM_cons,h3,h1],by simpa using h4.append h2⟩
  ·simp at h
theorem ZGa:∀(d:Nat) (t:TypeId) (l k:List A) (C:List Value),klT P d t l=some k->RL x l C->∃L,P.keyLits d t C=some L/\Zlh k L
 |0,_,_,_,_,h,_=>by simp[klT] at h
 |d+1,t,l,k,C,h,hl=>by
  unfold klT at h;unfold Program.keyLits;split at h
  ·rename_i hu;split at h
   ·rename_i f b;simp only[oinj] at h;subst h
    match C,hl with
    |[v],hl=>
     have:=Zc1 hl.1;subst this;exact⟨[.bool b],by simp[hu],.bool _ _,Tv⟩
   ·simp at h
  ·rename_i q hu;split at h
   ·rename_i f q' n;split at h
    ·rename_i hq;have:=ZdY hq;subst this;simp only[oinj] at h;subst h
     match C,hl with
     |[v],hl=>
      obtain⟨e1,e2⟩:=ZcX hl.1;subst e1;have hwf:(Lit.int q' n).wf=true:=by simp only[Lit.wf,Yc,Yk];exact e2
      exact⟨[.int q' n],by simp[hu,hwf],.int _ _ _,Tv⟩
    ·simp at h
   ·simp at h
  ·rename_i n e hu;split at h
   ·rename_i hlen;simp only[Yu,Zaj] at hlen;obtain⟨Ls,h1,h2⟩:=ZyV (λl k C h hl=>ZGa d e l k C h hl) hl _ _ h;refine⟨Ls.flatten,?_,h2⟩;simp only[hu];rw[YZ (by rw[<-hl.length];exact hlen),h1];rfl
   ·simp at h
  ·rename_i fs hu;split at h
   ·rename_i hlen;simp only[Yc,Yu,Zaj] at hlen;obtain⟨Ls,h1,h2⟩:=ZrE (λt l k C h hl=>ZGa d t l k C h hl) hl _ _ h;refine⟨Ls.flatten,?_,h2⟩;simp only[hu];rw[YZ ⟨by rw[<-hl.length];exact hlen.1,hlen.2⟩,h1];rfl
   ·simp at h
  ·simp at h
theorem ZPx {w:World} {t:TypeId} {l r:List A} {e:Bool} {C D:List Value} (h:eqT P t l r=some e) (hl:RL x l C) (hr:RL x r D):
  (Op.equal t (.agg C.toArray) (.agg D.toArray)).run P w=.ok e w/\∀op ox oy,(eqGuard op t ox oy (.agg C.toArray) (.agg D.toArray)).run P w=.ok () w:=by
 unfold eqT at h;split at h
 ·rename_i hk;simp only[Yc,YK,Yav] at hk;obtain⟨⟨hk,hg⟩,hag⟩:=hk;refine⟨?_,λop ox oy=> ?_⟩
  ·split at h
   ·rename_i a b ha hb;obtain⟨La,h1,h2⟩:=ZGa (x:=x) 12 t l a C ha hl;obtain⟨Lb,h3,h4⟩:=ZGa (x:=x) 12 t r b D hb hr;have hform:∀(l k:List A) (C:List Value),klT P 12 t l=some k->RL x l C->(Value.agg C.toArray).formed P t=true:=by
     intro l k C hk hl;unfold klT at hk;unfold aggT at hag;split at hk
     ·rename_i hu;simp[hu] at hag
     ·rename_i hu;simp[hu] at hag
     ·rename_i hu;split at hk
      ·rename_i hlen;simp only[Yu,Zaj] at hlen;simp[Value.formed,hu,<-hl.length,hlen]
      ·simp at hk
     ·rename_i hu;split at hk
      ·rename_i hlen;simp only[Yc,Yu,Zaj] at hlen;simp[Value.formed,hu,<-hl.length,hlen.1]
      ·simp at hk
     ·simp at hk
    obtain⟨rr,q1,q2⟩:=run_equalIn_deep (P:=P) 9988 12 t hk w 12 12 (.agg C.toArray) (.agg D.toArray) La Lb (hform _ _ _ ha hl) (hform _ _ _ hb hr) (by simpa [Value.cells] using h1) (by simpa [Value.cells] using h3);have he:=ZPy h h2 h4;have:rr=e:=by cases rr<;>cases e<;>simp_all
    subst this;exact q1
   ·simp at h
  ·cases op<;>simp[eqGuard,hg]
 ·simp at h
end Go.S3
namespace Go.S3
variable {P:Program}
variable {w:World} {v:Value}
theorem ZrH {x:Ctx} {m:Mem} (hm:MemR x m w) {h ver:Nat} (hv:RA x (.tip h ver) v) {g:Stg} (hg:Za5 m h ver=some g) (hf:g.ffz=true):RA x (.lst g.r g.lit false false g.l) v:=by
 obtain⟨s,hs,hok,rfl⟩:=Zgd hm hv hg;cases hb:s.blk with
 |none=>
  have hl:g.l=[]:=Yaj (by rw[<-hok.n];exact (hok.nil hb).1);rw[ZfF hb];exact .lst0 _ _ _ _ _ _ _ _ hl (λe=>by simp at e) (λe=>by simp at e) (λ_=>rfl)
 |some pc=>
  obtain⟨p,cap⟩:=pc;obtain⟨C,c1,c2,c3,c4,c5,c6,c7,c8⟩:=hok.row p cap hb;have hfc:=hok.ffz hf;rw[Zfb hb,show Value.slice (some ⟨p,0,none⟩) s.n cap=.slice (some ⟨p,0,none⟩) g.l.length cap by rw[hok.n]];have key:∀i j d,i<g.l.length->nth (elN g.r g.l i) j=some d->∃u,(C.take (s.n*g.r.wid))[i*g.r.wid+j]? =some u/\RA x.bare d u:=by intro i j d hi hd;obtain⟨u,e1,e2⟩:=c5 i j d (by rw[hok.n];exact hi) hd;exact⟨u,by rw[YI,YZ (by rw[hok.n];exact Zd2 hi hd)];exact e1,e2⟩
  refine ZeX (C:=C.take (s.n*g.r.wid)) (by rw[<-hok.n];exact c3) (by rw[<-hok.n];omega) (λe=>by simp at e) (λk u e=> ?_) key;rw[YI] at e;split at e
  ·rename_i hk;rw[c7 k (by rw[hfc];exact hk)];exact e
  ·simp at e
variable {s s':St} {a a':A}
theorem Zk0 {x:Ctx} (hm:MemR x s.mem w) (hf:Zdo s.mem a=true) (h:Zaz s a=some (a',s')):s'=s/\∀v,RA x a v->RA x a' v:=by
 cases a with
 |tip hh ver=>
  simp only[Zdo] at hf;simp only[Zaz] at h;split at hf
  ·rename_i g hg;rw[hg] at h;simp only[hf,oinj,pinj] at h;obtain⟨rfl,rfl⟩:=h;exact⟨rfl,λv hv=>ZrH hm hv hg hf⟩
  ·simp at hf
 |sp _ _ _ _=>simp[Zdo] at hf
 |_=>simp only[Zaz,oinj,pinj] at h;obtain⟨rfl,rfl⟩:=h;exact⟨rfl,λv hv=>hv⟩
structure SameSl (s s':St):Prop where
 sl:s'.Sl=s.Sl
 d:s'.dirty=s.dirty
 bd:s'.bd=s.bd
 bx:s'.mem.Bx=s.mem.Bx
theorem SameSl.refl (s:St):SameSl s s:=⟨rfl,rfl,rfl,rfl⟩
theorem SameSl.trans {a b c:St} (h:SameSl a b) (k:SameSl b c):SameSl a c:=⟨k.sl.trans h.sl,k.d.trans h.d,k.bd.trans h.bd,k.bx.trans h.bx⟩
theorem Zk3 {x:Ctx} (hm:MK x s.mem w) (hv:RA x a v) (h:Zaz s a=some (a',s')):
  ∃x',MK x' s'.mem w/\Ext x x'/\RA x' a' v/\SameSl s s':=by
 cases a with
 |tip hh ver=>
  simp only[Zaz] at h;split at h
  ·rename_i g hg;split at h
   ·rename_i hf;simp only[oinj,pinj] at h;obtain⟨rfl,rfl⟩:=h;exact⟨x,hm,Ext.refl x,ZrH hm.toR hv hg hf,SameSl.refl s⟩
   ·simp only[oinj,pinj] at h;obtain⟨rfl,rfl⟩:=h;obtain⟨si,hs,hok,rfl⟩:=Zgd hm.toR hv hg;obtain⟨x',h1,h2,h3⟩:=hm.freeze (ZV hg).1 hs;exact⟨x',h1,h2,h3 _,⟨rfl,rfl,rfl,rfl⟩⟩
  ·simp at h
 |sp _ _ _ _=>simp[Zaz] at h
 |_=>simp only[Zaz,oinj,pinj] at h;obtain⟨rfl,rfl⟩:=h;exact⟨x,hm,Ext.refl x,hv,SameSl.refl s⟩
theorem Zk1 {x:Ctx} {w:World}:∀{l l':List A} {s s':St} {vs:List Value},MK x s.mem w->RL x l vs->Zay s l=some (l',s')->
  ∃x',MK x' s'.mem w/\Ext x x'/\RL x' l' vs/\SameSl s s'
 |[],l',s,s',vs,hm,hv,h=>by simp only[Zay,oinj,pinj] at h;obtain⟨rfl,rfl⟩:=h;exact⟨x,hm,Ext.refl x,hv,SameSl.refl s⟩
 |a::l,l',s,s',v::vs,hm,hv,h=>by
  simp only[Zay] at h;split at h
  ·rename_i b s1 h1;split at h
   ·rename_i r s2 h2;simp only[oinj,pinj] at h;obtain⟨rfl,rfl⟩:=h;obtain⟨x1,m1,e1,r1,k1⟩:=Zk3 hm hv.1 h1;obtain⟨x2,m2,e2,r2,k2⟩:=Zk1 m1 (hv.2.mono e1) h2;exact⟨x2,m2,e1.trans e2,⟨r1.mono e2,r2⟩,k1.trans k2⟩
   ·simp at h
  ·simp at h
 |_::_,_,_,_,[],_,hv,_=>hv.elim
theorem ZhG {x:Ctx} {y y':W} (hm:MK x s.mem w) (hv:RW x y v) (h:ZaO s y=some (y',s')):∃x',MK x' s'.mem w/\Ext x x'/\RW x' y' v/\SameSl s s':=by
 cases y with
 |one a=>
  simp only[ZaO] at h;split at h
  ·rename_i b s1 h1;simp only[oinj,pinj] at h;obtain⟨rfl,rfl⟩:=h;exact Zk3 hm hv h1
  ·simp at h
 |agg l=>
  simp only[ZaO] at h;split at h
  ·rename_i b s1 h1;simp only[oinj,pinj] at h;obtain⟨rfl,rfl⟩:=h;obtain⟨C,rfl,hC⟩:=hv;obtain⟨x',m1,e1,r1,k1⟩:=Zk1 hm hC h1;exact⟨x',m1,e1,⟨C,rfl,r1⟩,k1⟩
  ·simp at h
 |junk=>
  simp only[ZaO,oinj,pinj] at h;obtain⟨rfl,rfl⟩:=h;exact⟨x,hm,Ext.refl x,hv,SameSl.refl s⟩
variable {y y':V}
theorem ZIW {x:Ctx} (hm:MK x s.mem w) (hv:RV x y v) (h:Zbh s y=some (y',s')):∃x',MK x' s'.mem w/\Ext x x'/\RV x' y' v/\SameSl s s':=by
 cases y with
 |w a=>
  simp only[Zbh] at h;split at h
  ·rename_i b s1 h1;simp only[oinj,pinj] at h;obtain⟨rfl,rfl⟩:=h;exact ZhG hm hv h1
  ·simp at h
 |tup l=>
  simp only[Zbh,oinj,pinj] at h;obtain⟨rfl,rfl⟩:=h;exact⟨x,hm,Ext.refl x,hv,SameSl.refl s⟩
theorem Zf1 {x:Ctx} {w:World}:∀{l l':List V} {s s':St} {vs:List Value},MK x s.mem w->RVs x l vs->Zah s l=some (l',s')->
  ∃x',MK x' s'.mem w/\Ext x x'/\RVs x' l' vs/\SameSl s s'
 |[],l',s,s',vs,hm,hv,h=>by simp only[Zah,oinj,pinj] at h;obtain⟨rfl,rfl⟩:=h;exact⟨x,hm,Ext.refl x,hv,SameSl.refl s⟩
 |a::l,l',s,s',v::vs,hm,hv,h=>by
  simp only[Zah] at h;split at h
  ·rename_i b s1 h1;split at h
   ·rename_i r s2 h2;simp only[oinj,pinj] at h;obtain⟨rfl,rfl⟩:=h;obtain⟨x1,m1,e1,r1,k1⟩:=ZIW hm hv.1 h1;obtain⟨x2,m2,e2,r2,k2⟩:=Zf1 m1 (hv.2.mono e1) h2;exact⟨x2,m2,e1.trans e2,⟨r1.mono e2,r2⟩,k1.trans k2⟩
   ·simp at h
  ·simp at h
 |_::_,_,_,_,[],_,hv,_=>hv.elim
def PsOk (x:Ctx) (ps:List (Nat×Option (List A))) (vs:List (Nat×Value)):Prop:=∀i c v,nth ps i=some c->nth vs i=some v->∀k,c.2=some k->RL x k v.2.cells.toList
theorem PsOk.mono {x x':Ctx} (e:Ext x x') {ps:List (Nat×Option (List A))} {vs:List (Nat×Value)} (h:PsOk x ps vs):PsOk x' ps vs:=λi c v h1 h2 k h3=>(h i c v h1 h2 k h3).mono e
theorem Zk2 {x:Ctx} {w:World}:∀{ps ps':List (Nat×Option (List A))} {s s':St} {vs:List (Nat×Value)},ps.length=vs.length->MK x s.mem w->PsOk x ps vs->ZbE s ps=some (ps',s')->
  ∃x',MK x' s'.mem w/\Ext x x'/\PsOk x' ps' vs/\ps'.map (·.1)=ps.map (·.1)/\SameSl s s'
 |[],ps',s,s',vs,_,hm,hv,h=>by simp only[ZbE,oinj,pinj] at h;obtain⟨rfl,rfl⟩:=h;exact⟨x,hm,Ext.refl x,hv,rfl,SameSl.refl s⟩
 |(i,some l)::r,ps',s,s',v::vs,hl,hm,hv,h=>by
  simp only[ZbE] at h;split at h
  ·rename_i b s1 h1;split at h
   ·rename_i r' s2 h2;simp only[oinj,pinj] at h;obtain⟨rfl,rfl⟩:=h;obtain⟨x1,m1,e1,r1,k1⟩:=Zk1 hm (hv 0 _ _ rfl rfl l rfl) h1;have hv':PsOk x1 r vs:=λj c u g1 g2 k g3=>(hv (j+1) c u g1 g2 k g3).mono e1
    obtain⟨x2,m2,e2,r2,q2,k2⟩:=Zk2 (by simpa using hl) m1 hv' h2;refine⟨x2,m2,e1.trans e2,λj c u g1 g2 k g3=> ?_,by simp[q2],k1.trans k2⟩;cases j with
    |zero=>
     simp only[nth,oinj] at g1 g2;subst g1;subst g2;simp only[oinj] at g3;subst g3;exact r1.mono e2
    |succ j=>exact r2 j c u g1 g2 k g3
   ·simp at h
  ·simp at h
 |(_,none)::_,_,_,_,_,_,_,_,h=>by simp[ZbE] at h
 |_::_,_,_,_,[],hl,_,_,_=>by simp at hl
theorem ZkZ {x:Ctx} {w:World}:∀{l l':List A} {s s':St},MemR x s.mem w->l.all (Zdo s.mem)=true->Zay s l=some (l',s')->s'=s/\∀vs,RL x l vs->RL x l' vs
 |[],l',s,s',_,_,h=>by simp only[Zay,oinj,pinj] at h;obtain⟨rfl,rfl⟩:=h;exact⟨rfl,λvs hv=>hv⟩
 |a::l,l',s,s',hm,hf,h=>by
  simp only[List.all_cons,Yc] at hf;simp only[Zay] at h;split at h
  ·rename_i b s1 h1;split at h
   ·rename_i r s2 h2;simp only[oinj,pinj] at h;obtain⟨rfl,rfl⟩:=h;obtain⟨rfl,q1⟩:=Zk0 hm hf.1 h1;obtain⟨rfl,q2⟩:=ZkZ hm hf.2 h2;exact⟨rfl,λvs hv=>match vs,hv with|_::_,hv=>⟨q1 _ hv.1,q2 _ hv.2⟩⟩
   ·simp at h
  ·simp at h
theorem ZIV {x:Ctx} (hm:MemR x s.mem w) (hf:Zct s.mem y=true) (h:Zbh s y=some (y',s')):s'=s/\∀v,RV x y v->RV x y' v:=by
 cases y with
 |w a=>
  simp only[Zbh] at h;split at h
  ·rename_i b s1 h1;simp only[oinj,pinj] at h;obtain⟨rfl,rfl⟩:=h;cases a with
   |one a=>
    simp only[ZaO] at h1;split at h1
    ·rename_i c s2 h2;simp only[oinj,pinj] at h1;obtain⟨rfl,rfl⟩:=h1;exact Zk0 hm hf h2
    ·simp at h1
   |agg l=>
    simp only[ZaO] at h1;split at h1
    ·rename_i c s2 h2;simp only[oinj,pinj] at h1;obtain⟨rfl,rfl⟩:=h1;obtain⟨q1,q2⟩:=ZkZ hm hf h2;exact⟨q1,λv hv=>let ⟨C,e,hC⟩:=hv;⟨C,e,q2 C hC⟩⟩
    ·simp at h1
   |junk=>
    simp only[ZaO,oinj,pinj] at h1;obtain⟨rfl,rfl⟩:=h1;exact⟨rfl,λv hv=>hv⟩
  ·simp at h
 |tup l=>
  simp only[Zbh,oinj,pinj] at h;obtain⟨rfl,rfl⟩:=h;exact⟨rfl,λv hv=>hv⟩
theorem ZpM {x:Ctx} {w:World}:∀{l l':List V} {s s':St},MemR x s.mem w->l.all (Zct s.mem)=true->Zah s l=some (l',s')->s'=s/\∀vs,RVs x l vs->RVs x l' vs
 |[],l',s,s',_,_,h=>by simp only[Zah,oinj,pinj] at h;obtain⟨rfl,rfl⟩:=h;exact⟨rfl,λvs hv=>hv⟩
 |a::l,l',s,s',hm,hf,h=>by
  simp only[List.all_cons,Yc] at hf;simp only[Zah] at h;split at h
  ·rename_i b s1 h1;split at h
   ·rename_i r s2 h2;simp only[oinj,pinj] at h;obtain⟨rfl,rfl⟩:=h;obtain⟨rfl,q1⟩:=ZIV hm hf.1 h1;obtain⟨rfl,q2⟩:=ZpM hm hf.2 h2;exact⟨rfl,λvs hv=>match vs,hv with|_::_,hv=>⟨q1 _ hv.1,q2 _ hv.2⟩⟩
   ·simp at h
  ·simp at h
end Go.S3
namespace Go.S3
variable {P:Program}
variable {s:St} {a:Act}
theorem ZW0 {x:Ctx} (hf:RF x s.Sl a.tmps) {d:Option Operand} {z p:Bool×Int} (h:opdI s d z=some p):
  (d=none/\p=z)\/∃o k,d=some o/\a.eval o=.int k p.2:=by
 unfold opdI at h;split at h
 ·simp only[oinj] at h;exact .inl ⟨rfl,h.symm⟩
 ·rename_i o;split at h
  ·rename_i l k n hn;simp only[oinj] at h;subst h;exact .inr ⟨o,k,rfl,(ZcX (Zaw hf hn)).1⟩
  ·simp at h
def bnd (d:Option Value) (z:Int):Option Int:=match d with
 |none=>some z
 |some (.int _ n)=>some n
 |_=>none
theorem ZuS {x:Ctx} (hf:RF x s.Sl a.tmps) {d:Option Operand} {z p:Bool×Int} (h:opdI s d z=some p):bnd (d.map a.eval) z.2=some p.2:=by
 rcases ZW0 hf h with ⟨rfl,rfl⟩|⟨o,k,rfl,e⟩
 ·rfl
 ·simp[bnd,e]
variable {w:World} {t elem:TypeId}
theorem Zz3 (ht:P.underlying t=some (.slice elem)) {i:TypeInfo} (hi:P.info? elem=some i) (b:Option Addr) (n cap:Nat) (hn:n<=cap) (lo hi' mx:Option Value) (l h m:Int)
  (hl:bnd lo 0=some l) (hh:bnd hi' n=some h) (hm:bnd mx h=some m) (hmh:m=h) (hms:mx.isSome=true->hi'.isSome=true) (h0:0<=l) (h1:l<=h) (h2:h<=n):
  (Instr.sliceAt t (.slice b n cap) lo hi' mx).run P w=.ok (.slice (if (if mx.isSome then h.toNat else cap)=l.toNat then b else b.map (·.add (l.toNat*i.size))) (h.toNat-l.toNat) ((if mx.isSome then h.toNat else cap)-l.toNat)) w:=by
 subst hmh;have hb:∀(d:Value) (k:IntKind) (v:Int) (y:Nat) (c:BoundsCode),d=.int k v->0<=v->v<=y->(Instr.sliceBound d y c).run P w=.ok v.toNat w:=by intro d k v y c e e1 e2;subst e;simp[Instr.sliceBound,asIntOf,e1,e2]
 have int_bnd:∀(d:Value) (z v:Int),bnd (some d) z=some v->∃k,d=.int k v:=by
  intro d z v e;unfold bnd at e;split at e
  ·rename_i e';simp at e'
  ·rename_i k n e';simp only[oinj] at e e';subst e;exact⟨k,e'⟩
  ·simp at e
 have hm0:0<=m:=by omega
 have key:∀L H M:Nat,L=l.toNat->H=m.toNat->(Instr.sliceBounds true n cap lo hi' mx).run P w=.ok (L,H,M) w->
   (Instr.sliceAt t (.slice b n cap) lo hi' mx).run P w=.ok (.slice (if M=L then b else b.map (·.add (L*i.size))) (H-L) (M-L)) w:=by intro L H M _ _ hs;simp[Instr.sliceAt,run_underlying ht,Instr.slice,hs,sizeOf,typeInfo,hi]
 have hb':∀(d:Value) (z v:Int) (y:Nat) (c:BoundsCode),bnd (some d) z=some v->0<=v->v<=y->(Instr.sliceBound d y c).run P w=.ok v.toNat w:=by intro d z v y c e e1 e2;obtain⟨k,e3⟩:=int_bnd d z v e;exact hb d k v y c e3 e1 e2
 cases mx with
 |some mv=>
  cases hi' with
  |none=>simp at hms
  |some hv=>
   have r1:=hb' mv m m cap .slice3Acap hm hm0 (by omega);have r2:=hb' hv n m m.toNat .slice3B hh hm0 (by omega);cases lo with
   |none=>
    have:l=0:=by simpa [bnd] using hl.symm
    subst this;exact key 0 _ _ rfl rfl (by simp[Instr.sliceBounds,r1,r2])
   |some lv=>
    have r3:=hb' lv 0 l m.toNat .slice3C hl h0 (by omega);exact key _ _ _ rfl rfl (by simp[Instr.sliceBounds,r1,r2,r3])
 |none=>
  cases hi' with
  |none=>
   have:m=n:=by simpa [bnd] using hh.symm
   subst this;cases lo with
   |none=>
    have:l=0:=by simpa [bnd] using hl.symm
    subst this;have:=key 0 n cap rfl rfl (by simp[Instr.sliceBounds]);simpa using this
   |some lv=>
    have r3:=hb' lv 0 l n .sliceB hl h0 (by omega);have:=key l.toNat n cap rfl rfl (by simp[Instr.sliceBounds,r3]);simpa using this
  |some hv=>
   have r2:=hb' hv n m cap .sliceAcap hh hm0 (by omega);cases lo with
   |none=>
    have:l=0:=by simpa [bnd] using hl.symm
    subst this;exact key 0 _ _ rfl rfl (by simp[Instr.sliceBounds,r2])
   |some lv=>
    have r3:=hb' lv 0 l m.toNat .sliceB hl h0 (by omega);exact key _ _ _ rfl rfl (by simp[Instr.sliceBounds,r2,r3])
variable {b:Int}
theorem ZQV {α:Type} {l:List α} {a:Int} (h2:b<=l.length):(subL l a b).length=b.toNat-a.toNat:=by unfold subL;simp;omega
theorem ZPB {r:R} {l:List r.den} {a:Int} {i:Nat} (hi:i<b.toNat-a.toNat):elN r (subL l a b) i=elN r l (a.toNat+i):=by simp only[elN,subL,Ys,YI,YZ hi,YN]
variable {xa:A} {vx:Value} {res:Res}
theorem Zwn {x:Ctx} (hf:RF x s.Sl a.tmps) (hm:MemR x s.mem w) (hx:RA x xa vx) (hnt:∀h v,xa≠ .tip h v) {low high max:Option Operand}
  (h:sliceB P s t xa low high max=some res) (hc:res.chk≠some false):
  res.m=s.mem/\res.bd=s.bd/\res.sd=s.sd/\∃v,(∀w',(Instr.sliceAt t vx (low.map a.eval) (high.map a.eval) (max.map a.eval)).run P w'=.ok v w')/\RV x res.v v:=by
 unfold sliceB at h;split at h
 case h_2=>simp at h
 rename_i elem hu;split at h
 case h_2=>simp at h
 rename_i r hel;obtain⟨i,z,hi,hz,hzs,hsz,hby,hw⟩:=ZhJ hel;split at h
 case h_2=>simp at h
 rename_i q hq;split at h
 case h_2=>simp at h
 rename_i l hh hl hhh;split at h
 case h_2=>simp at h
 rename_i m hmm;split at h
 case h_2=>simp at h
 rename_i hmh;simp only[Yc,YM,Yk,YK,Yah] at hmh;obtain⟨hmh,hms⟩:=hmh;have hmh:m.2=hh.2:=by
  rcases hmh with hmh|hmh
  ·cases max with
   |none=>simp only[opdI,oinj] at hmm;rw[hmm]
   |some o=>simp at hmh
  ·exact hmh
 have hms:max.isSome=true->high.isSome=true:=by
  intro e;rcases hms with h'|h'
  ·rw[e] at h';simp at h'
  ·cases high<;>simp at h'|-
 split at h
 case h_2=>simp at h
 rename_i chk hchk;simp only[ofSt,oinj] at h;subst h;have hb:=ZkQ hchk hc;simp only[Yc,YM,Yk] at hb;obtain⟨⟨h0,h1⟩,h2'⟩:=hb;have h2:hh.2<=(q.l.length:Int):=by omega
 refine⟨rfl,rfl,rfl,?_⟩;have e1:=ZuS hf hl;have e2:=ZuS hf hhh;have e3:=ZuS hf hmm;have hms':(max.map a.eval).isSome=true->(high.map a.eval).isSome=true:=by simpa using hms
 obtain⟨b,cap,news,rfl,SX⟩:=Zsn hm hx hq;refine⟨_,λw'=>Zz3 (P:=P) (w:=w') hu hi b q.l.length cap SX.hcap _ _ _ l.2 hh.2 m.2 e1 e2 e3 hmh hms' h0 h1 h2,?_⟩;have hlen:=ZQV (a:=l.2) (b:=hh.2) h2;have hcases:(xa=.nilsl/\q.l=[]/\b=none/\q.full=true)\/∃lit full nn,xa=.lst r lit full nn q.l/\q.full=full:=by
  cases xa with
  |nilsl=>
   simp only[sqOf,oinj] at hq;subst hq;cases hx;exact .inl ⟨rfl,rfl,rfl,rfl⟩
  |lst r' lit full nn l'=>
   simp only[sqOf] at hq;split at hq
   ·rename_i e _;simp only[oinj] at hq;subst hq;cases e;exact .inr ⟨lit,full,nn,rfl,rfl⟩
   ·simp at hq
  |tip h v=>exact absurd rfl (hnt h v)
  |_=>simp[sqOf] at hq
 have hmx:(max.map a.eval).isSome=max.isSome:=by simp
 rw[hmx];generalize hM:(if max.isSome=true then hh.2.toNat else cap)=M;have hM1:hh.2.toNat<=M:=by
  rw[<-hM];split
  ·exact Ye _
  ·have:=SX.hcap;omega
 have hfull:((q.full&&high.isNone)||max.isSome)=true->M-l.2.toNat=hh.2.toNat-l.2.toNat:=by
  intro e;simp only[YM,Yc] at e;rcases e with ⟨e,e'⟩|e
  ·have hcap:=SX.hfull e;cases high with
   |some o=>simp at e'
   |none=>
    have hmax:max.isSome=false:=by
     cases hmx':max.isSome with
     |false=>rfl
     |true=>have:=hms hmx';simp at this
    simp only[opdI,oinj] at hhh;rw[hmax] at hM;simp at hM;rw[<-hM,hcap,<-hhh];simp
  ·rw[e] at hM;simp at hM;rw[hM]
 show RA x (.lst r (l.1&&hh.1) ((q.full&&high.isNone)||max.isSome) (nnA xa) (subL q.l l.2 hh.2)) _;rw[<-hlen] at hfull|-;by_cases he:hh.2.toNat-l.2.toNat=0
 ·have hl0:subL q.l l.2 hh.2=[]:=Yaj (by rw[hlen];exact he);have:(subL q.l l.2 hh.2).length=0:=by rw[hlen];exact he
  rw[this] at hfull|-;refine .lst0 _ _ _ _ _ _ _ _ hl0 hfull (λe=> ?_) (λe=> ?_)
  rotate_left
  ·have hb0:b=none:=by
    split at e
    ·exact e
    ·simpa using e
   have hcap0:cap=0:=by
    subst hb0;generalize hvx:Value.slice none q.l.length cap=vx at hx;rcases hcases with ⟨rfl,_,_,_⟩|⟨lit,full,nn,rfl,_⟩
    ·cases hx;injection hvx
    ·cases hx with
     |lst0 _ _ _ _ _ _ a' cap' _ _ _ h4=>
      injection hvx with q1 _ q3
      rw[q3];exact h4 q1.symm
     |lst _ _ _ _ _ _ p o _ c=>injection hvx with q1 _ _;simp at q1
   have:=SX.hcap;rw[<-hM];split<;>omega
  rcases hcases with ⟨rfl,_,_,_⟩|⟨lit,full,nn,rfl,_⟩
  ·simp[nnA] at e
  ·have hbs:b.isSome=true:=by
    simp only[nnA] at e;obtain⟨a',cap',news',e1',_,hs⟩:=Zss hm hx;injection e1' with e1' _ _
    rw[e1'];exact hs e
   split
   ·exact hbs
   ·simpa using hbs
 ·have hne:subL q.l l.2 hh.2≠[]:=λe=>by rw[e] at hlen;simp at hlen;omega
  rcases hcases with ⟨_,hq0,_,_⟩|⟨lit,full,nn,rfl,_⟩
  ·rw[hq0] at h2;simp at h2;omega
  ·generalize hvx:Value.slice b q.l.length cap=vx at hx;cases hx with
   |lst0 _ _ _ _ _ _ _ _ h3 _ _ _=>rw[h3] at h2;simp at h2;omega
   |lst _ _ _ _ _ _ p o _ c g0 g1 g2 gm g3 g4=>
    injection hvx with hvx1 _ _
    subst hvx1;rw[Y3 (by omega)];simp only[Option.map_some,Zd4];refine .lst _ _ _ _ _ _ p _ _ (λi' j=>c (l.2.toNat+i') j) hne hfull (by rw[hlen];omega) (by rw[hlen];omega) (λi' j d hi' hd=> ?_) (λi' j d hi' hd=> ?_)
    ·rw[hlen] at hi';rw[ZPB hi'] at hd;have:=g3 (l.2.toNat+i') j d (by omega) hd;rw[<-this];congr 1;rw[Yaz,hw];omega
    ·rw[hlen] at hi';rw[ZPB hi'] at hd;exact g4 (l.2.toNat+i') j d (by omega) hd
theorem Zfe (ht:P.underlying t=some (.slice elem)) {i:TypeInfo} (hi:P.info? elem=some i) (b:Addr) (n cap:Nat) (k:IntKind) (j:Int) (h0:0<=j) (h1:j<n):
  (Instr.indexAt t (.slice (some b) n cap) (.int k j)).run P w=.ok (.pointer (some (b.add (j.toNat*i.size)))) w:=by simp[Instr.indexAt,asIntOf,run_underlying ht,h0,h1,sizeOf,typeInfo,hi]
variable {n:Nat}
theorem Zff {m:Nat} (ht:P.underlying t=some (.array m elem)) (hn:Zkm P elem=some n) (b:Addr) (k:IntKind) (j:Int) (h0:0<=j) (h1:j<m):
  (Instr.indexAt t (.pointer (some b)) (.int k j)).run P w=.ok (.pointer (some (b.add (j.toNat*n)))) w:=by simp[Instr.indexAt,asIntOf,run_underlying ht,h0,h1,ZbX hn,Instr.sureAddr]
theorem ZT {i:Int}:Zf i n=true↔0<=i/\i<n:=by simp[Zf]
theorem ZkJ {r:R} (hw:r.wid=1) (l:List r.den):∀(n j k:Nat) (a:A),nth (Zzl r l j n) k=some a->k<n/\nth (elN r l (j+k)) 0=some a
 |0,j,k,a,h=>by simp[Zzl,Zr] at h
 |n+1,j,k,a,h=>by
  have hlen:(r.enc (r.get l (j:Int))).length=1:=by rw[R.enc_len];exact hw
  match he:r.enc (r.get l (j:Int)),hlen with
  |[b],_=>
   simp only[Zzl,he,List.cons_append,List.nil_append] at h;cases k with
   |zero=>
    refine⟨by omega,?_⟩;simp only[nth] at h;show nth (r.enc (r.get l ((j+0:Nat):Int))) 0=_;rw[Nat.add_zero,he];exact h
   |succ k=>
    simp only[nth] at h;obtain⟨h1,h2⟩:=ZkJ hw l n (j+1) k a h;have e:j+(k+1)=j+1+k:=by omega
    exact⟨by omega,by rw[e];exact h2⟩
theorem ZQg {x:Ctx} (hx:RA x xa vx) (h:Zzu P s t xa=some res) (hc:res.chk≠some false):
  res.m=s.mem/\res.bd=s.bd/\res.sd=s.sd/\∃v,(∀w',(Instr.arrayAt t vx).run P w'=.ok v w')/\RV x res.v v:=by
 unfold Zzu at h;split at h
 ·rename_i n elem r ll _ _ l hu;split at h
  ·rename_i hwn;simp only[Yc,Yu,Yad] at hwn;split at h
   case h_2=>simp at h
   rename_i chk hchk;simp only[ofSt,oinj] at h;subst h;have hb:=ZkQ hchk hc;rw[YG] at hb;refine⟨rfl,rfl,rfl,?_⟩;cases hx with
   |lst0 _ _ _ _ _ _ _ _ h3 _ _ _=>rw[h3] at hb;simp at hb;omega
   |lst _ _ _ _ _ _ p o cap c g0 g1 g2 gm g3 g4=>
    refine⟨.pointer (some ⟨p,o,none⟩),λw'=> ?_,?_⟩
    ·have hn:¬l.length<n:=by omega
     simp[Instr.arrayAt,run_underlying hu,hn]
    ·refine .fp _ _ p o (λk=>c k 0) (λk d hd=> ?_) (λk d hd=> ?_)
     ·obtain⟨h1,h2⟩:=ZkJ hwn.1 l n 0 k d hd;rw[Yw] at h2;have:=g3 k 0 d (by omega) h2;rw[hwn.1] at this;simpa using this
     ·obtain⟨h1,h2⟩:=ZkJ hwn.1 l n 0 k d hd;rw[Yw] at h2;exact g4 k 0 d (by omega) h2
  ·simp at h
 ·simp at h
theorem ZjH {x:Ctx} (hm:MemR x s.mem w) {ia:A} {vi:Value} (hx:RA x xa vx) (hi:RA x ia vi) (h:ZaV P s t xa ia=some res) (hc:res.chk≠some false):
  res.m=s.mem/\res.bd=s.bd/\res.sd=s.sd/\∃v,(∀w',(Instr.indexAt t vx vi).run P w'=.ok v w')/\RV x res.v v:=by
 unfold ZaV at h;split at h
 ·rename_i elem lit ik j hu;obtain⟨rfl,hir⟩:=ZcX hi;split at h
  case h_2=>simp at h
  rename_i r hel;obtain⟨i,z,hi',hz,hzs,hsz,hby,hw⟩:=ZhJ hel;split at h
  ·rename_i hh ver;split at h
   case h_2=>simp at h
   rename_i g hg;split at h
   case h_2=>simp at h
   rename_i e he;split at h
   case h_2=>simp at h
   rename_i chk hchk;simp only[ofSt,oinj] at h;subst h;have hb:=ZkQ hchk hc;rw[ZT] at hb;obtain⟨si,hs,hok,rfl⟩:=Zgd hm hx hg;obtain⟨hg1,hg2⟩:=ZV hg;have hr:g.r=r:=R.same_eq he;refine⟨rfl,rfl,rfl,?_⟩;have hbl:∃p cap,si.blk=some (p,cap):=by
    cases hb':si.blk with
    |none=>have:=(hok.nil hb').1;rw[hok.n] at this;omega
    |some pc=>exact⟨pc.1,pc.2,rfl⟩
   obtain⟨p,cap,hbl⟩:=hbl;rw[Zfb hbl];refine⟨_,λw'=>Zfe (P:=P) (w:=w') hu hi' ⟨p,0,none⟩ si.n cap ik j hb.1 (by rw[hok.n];exact hb.2),?_⟩;rw[Zd4,Yw];refine .sp _ _ _ _ _ si _ hs (by rw[hok.ver,hg2];exact Ye _) (λ_=>⟨p,cap,hbl,hb.1,by rw[hok.n];omega,?_⟩) trivial;rw[hok.wd,hr,hw];rfl
  ·rename_i r' ll _ _ l;split at h
   case h_2=>simp at h
   rename_i e he;split at h
   case h_2=>simp at h
   rename_i chk hchk;simp only[ofSt,oinj] at h;subst h;have hb:=ZkQ hchk hc;rw[ZT] at hb;cases e;refine⟨rfl,rfl,rfl,?_⟩;cases hx with
   |lst0 _ _ _ _ _ _ _ _ h3 _ _ _=>rw[h3] at hb;simp at hb;omega
   |lst _ _ _ _ _ _ p o cap c g0 g1 g2 gm g3 g4=>
    refine⟨_,λw'=>Zfe (P:=P) (w:=w') hu hi' ⟨p,o,none⟩ _ cap ik j hb.1 hb.2,?_⟩;rw[Zd4];have hlt:j.toNat<l.length:=by omega
    refine .fp _ _ p _ (λk=>c j.toNat k) (λk d hd=> ?_) (λk d hd=>g4 j.toNat k d hlt hd);have:=g3 j.toNat k d hlt hd;rw[hw] at this;exact this
  ·simp at h
 ·rename_i m elem ik j hu;obtain⟨rfl,hir⟩:=ZcX hi;split at h
  case h_2=>simp at h
  rename_i n hn;split at h
  ·rename_i hrg;rw[ZT] at hrg;simp only[Zbs,oinj] at h;subst h;refine⟨rfl,rfl,rfl,?_⟩;cases hx with
   |loc _ _ _ q hq=>
    refine⟨_,λw'=>Zff (P:=P) (w:=w') hu hn _ ik j hrg.1 hrg.2,?_⟩;rw[Zd4];exact .loc _ _ _ _ hq
  ·rename_i l hrg;rw[ZT] at hrg;simp only[Zbs,oinj] at h;subst h;refine⟨rfl,rfl,rfl,?_⟩;cases hx with
   |fp _ _ q o c hf hr=>
    refine⟨_,λw'=>Zff (P:=P) (w:=w') hu hn _ ik j hrg.1 hrg.2,?_⟩;rw[Zd4];refine .fp _ _ _ _ (λk=>c (j.toNat*n+k)) (λk d hd=> ?_) (λk d hd=> ?_)
    ·rw[ZcZ,Zo,YN,<-Zo] at hd;rw[Yaq];exact hf _ _ hd
    ·rw[ZcZ,Zo,YN,<-Zo] at hd;exact hr _ _ hd
  ·simp at h
 ·simp at h
theorem ZXy (h:n<=maxLen):inR .i64 (n:Int)/\goInt n=.int .i64 (n:Int):=by
 have h':n<=9223372036854775807:=by simp only[maxLen] at h;omega
 refine⟨?_,rfl⟩;simp[inR,IntKind.min,IntKind.max,IntKind.signed,IntKind.bits];omega
variable {ty:TypeId}
theorem ZsD (ht:P.underlying t=some (.slice elem)) (b:Option Addr) (n cap:Nat):(Builtin.len_ #[t] ty #[.slice b n cap]).run P w=.ok (goInt n) w:=by simp[Builtin.len_,run_underlying ht]
theorem ZsC (ht:P.underlying t=some (.array n elem)) (v:Value):(Builtin.len_ #[t] ty #[v]).run P w=.ok (goInt n) w:=by simp[Builtin.len_,run_underlying ht]
end Go.S3
namespace Go.S3
variable {P:Program}
def ZdH (w w':World):Prop:=ZL w w'/\w'.os=w.os/\w'.tape=w.tape/\w'.output=w.output
theorem ZdH.refl (w:World):ZdH w w:=⟨ZL.refl w,rfl,rfl,rfl⟩
theorem ZdH.trans {a b c:World} (h:ZdH a b) (k:ZdH b c):ZdH a c:=⟨h.1.trans k.1,k.2.1.trans h.2.1,k.2.2.1.trans h.2.2.1,k.2.2.2.trans h.2.2.2⟩
theorem ZdH.drew (w:World):ZdH w {w with drawn:=w.drawn+1}:=⟨⟨Ye _,λ_ _=>rfl⟩,rfl,rfl,rfl⟩
theorem ZdH.alloc (w:World) (o:Obj):ZdH w (w.alloc o):=⟨ZL.alloc w o,rfl,rfl,rfl⟩
theorem ZdH.step {x:Ctx} {m:Mem} {w w':World} (h:ZdH w w') (hm:MK x m w):Step x w w':=h.1.step hm h.2.1 h.2.2.1 h.2.2.2
theorem Zht (l:List A):∀n,(repL l n).length=n*l.length
 |0=>by simp[repL]
 |n+1=>by simp only[repL,Yd,Zht l n];rw[Nat.succ_mul];omega
theorem ZsI (l:List A):∀(n k:Nat),k<n*l.length->nth (repL l n) k=nth l (k%l.length)
 |0,k,h=>by simp at h
 |n+1,k,h=>by
  simp only[repL];rw[Zo];by_cases hk:k<l.length
  ·rw[Yp hk,YaX hk,Zo]
  ·have h1:l.length<=k:=by omega
   rw[YU h1,<-Zo,ZsI l n (k-l.length) (by rw[Nat.succ_mul] at h;omega)];congr 1;exact (Nat.mod_eq_sub_mod h1).symm
theorem Zk7 {r:R}:∀{rows:List (List A)} {xs:List r.den},Zk8 r rows=some xs->xs.length=rows.length/\∀j y,nth rows j=some y->∃x,xs[j]? =some x/\r.decW y=some x
 |[],xs,h=>by simp only[Zk8,oinj] at h;subst h;exact⟨rfl,λj y e=>by simp[Zr] at e⟩
 |y::l,xs,h=>by
  simp only[Zk8] at h;split at h
  ·rename_i x xs' h1 h2;simp only[oinj] at h;subst h;obtain⟨q1,q2⟩:=Zk7 h2;refine⟨by simp[q1],λj y' e=> ?_⟩;cases j with
   |zero=>simp only[nth,oinj] at e;subst e;exact⟨x,rfl,h1⟩
   |succ j=>exact q2 j y' e
  ·simp at h
variable {s:St} {w:World} {t:TypeId} {n:Nat} {ps:List (Nat×Option (List A))} {res:Res}
theorem Zh8 {x:Ctx} {m0:Mem} (hm:MK x m0 w) {vs:List (Nat×Value)} (hfst:ps.map (·.1)=vs.map (·.1)) (hps:PsOk x ps vs)
  (h:Zdu P s t n ps=some res):
  res.m=s.mem/\res.bd=s.bd/\res.sd=s.sd/\∃v w' x',(Instr.buildSlice t n vs.toArray).run P w=.ok v w'/\RV x' res.v v/\MK x' m0 w'/\Ext x x'/\ZdH w w':=by
 unfold Zdu at h;split at h
 case h_2=>simp at h
 rename_i elem hu;split at h
 case h_2=>simp at h
 rename_i r zl hel hzl;obtain⟨i,z,hi,hz,hzs,hsz,hby,hw⟩:=ZhJ hel;split at h
 case h_2=>simp at h
 rename_i hbig;simp only[YG] at hbig;split at h
 case h_2=>simp at h
 rename_i l hfill;split at h
 case h_2=>simp at h
 rename_i rows hrows;split at h
 case h_2=>simp at h
 rename_i xs hxs;simp only[ofSt,oinj] at h;subst h;refine⟨rfl,rfl,rfl,?_⟩;obtain⟨zv,hzr,hzl'⟩:=Zee (P:=P) (x:=x) hzl;have hzv:zv=z:=by have:=hzr w;simp[zeroValue,typeInfo,hi,hz] at this;exact this.symm
 subst hzv;have hzlen:zl.length=i.size:=by rw[hzl'.length,Array.length_toList,hzs]
 let Z:List Value:=(List.range (n*i.size)).map λk=>zv.cells.toList[k%i.size]?.getD undef
 have hZ:RL x (repL zl n) Z:=by
  refine RL.of_nth (by simp[Z,Zht,hzlen]) λk b hb=> ?_
  have hk:k<n*i.size:=by have:=Z9 hb;rwa [Zht,hzlen] at this
  rw[ZsI zl n k (by rw[hzlen];exact hk),hzlen] at hb;obtain⟨u,e1,e2⟩:=hzl'.nth _ _ hb;exact⟨u,by simp only[Z];rw[YaL,YaH hk];simp only[Option.map_some,e1,Option.getD_some],e2⟩
 obtain⟨D,hfl,hD⟩:=ZjO (x:=x) (λj=>some (j*r.wid,r.wid)) ps vs (repL zl n) l Z hfst hps hZ hfill;have hzeros:(if n*i.size=0 then (pure #[]:Sem (Array Value)) else do pure (<-zeroValue elem).cells).run P w=.ok (if n*i.size=0 then #[] else zv.cells) w:=by
  split
  ·rfl
  ·simp[hzr w]
 have hZa:∀C:Array Value,(n*i.size=0\/C=zv.cells)->((Array.range (n*i.size)).map (C[· %C.size]!))=Z.toArray:=by
  intro C hC;apply Yax;simp only[YaF,Array.toList_range];simp only[Z];apply List.map_congr_left;intro k hk;rw[YaK] at hk;rcases hC with hC|hC
  ·omega
  ·subst hC;rw[hzs];have hlt:k%i.size<zv.cells.size:=by rw[hzs];exact Nat.mod_lt _ hsz
   rw[getElem!_pos zv.cells _ hlt];simp[hlt]
 have hrun:(Instr.buildSlice t n vs.toArray).run P w=.ok (.slice (some ⟨w.heap.size,0,none⟩) n n) (w.alloc (.cells D.toArray elem)):=by
  have hnb:¬(n*i.size>2^24):=by rw[hw] at hbig;omega
  have hfl':Instr.fill (λj=>some (j*i.size,i.size)) Z.toArray vs=some D.toArray:=by rw[<-hw];exact hfl
  have hZ1:=hZa #[];by_cases h0:n*i.size=0
  ·have e1:=hZa #[] (.inl h0);simp only[h0] at e1;simp at e1;simp[Instr.buildSlice,run_underlying hu,sizeOf,typeInfo,hi,h0,newRow];rw[e1,hfl'];rfl
  ·have e1:=hZa zv.cells (.inr rfl);simp[Instr.buildSlice,run_underlying hu,sizeOf,typeInfo,hi,hnb,h0,newRow,hzr w];rw[e1,hfl'];rfl
 obtain⟨q1,q2⟩:=ZiX r.wid n l rows hrows;obtain⟨q3,q4⟩:=Zk7 hxs;have hxl:xs.length=n:=q3.trans q1;obtain⟨m1,m2⟩:=hm.frzNew D elem;refine⟨_,_,_,hrun,?_,m1,m2,ZdH.alloc w _⟩;have hrow:∀i' j d,i'<xs.length->nth (elN r xs i') j=some d->∃u,D[i'*r.wid+j]? =some u/\RA (Ctx.bare {x with fz:=λb o=>if b=w.heap.size then D[o]? else x.fz b o}) d u:=by
  intro i' j d hi' hd;obtain⟨y,hy⟩:=Zda (l:=rows) (n:=i') (by rw[q1];omega);obtain⟨xv,e1,e2⟩:=q4 i' y hy;obtain⟨e3,e4⟩:=q2 i' y hy;have hy2:RL x y ((D.drop (i'*r.wid)).take r.wid):=by rw[e3];exact (hD.drop _).take _
  have hen:=R.decW_ok e2 hy2;have hel':elN r xs i'=r.enc xv:=by simp[elN,Ys,e1]
  have hj:=ZjP hd;rw[hel'] at hd;obtain⟨u,f1,f2⟩:=hen.nth j d hd;refine⟨u,?_,f2.plain (λb o v e=>m2.fz b o v e) (R.enc_plain _ _ _ (ZbB hd))⟩;rw[YI,YZ hj,YN] at f1;exact f1
 have hnm:xs.length<=maxLen:=by rw[hxl];have:n*1<=n*r.wid:=YaP _ (by omega);simp only[maxLen];omega
 have:=ZeX (y:={x with fz:=λb o=>if b=w.heap.size then D[o]? else x.fz b o}) (r:=r) (l:=xs) (C:=D) (p:=w.heap.size) (cap:=n) (lit:=true) (full:=true) (nn:=true) (by omega) hnm (λ_=>hxl.symm)
  (λk u e=>(YZ rfl).trans e) hrow
 rw[hxl] at this;exact this
theorem ZEI:∀(xs l:List A) (o:Nat) (l':List A),putN l o xs=some l'->l'.length=l.length
 |[],l,o,l',h=>by simp only[putN,oinj] at h;subst h;rfl
 |x::xs,l,o,l',h=>by
  simp only[putN] at h;split at h
  ·rw[ZEI xs _ _ _ h,ZK,YaI]
  ·simp at h
theorem Zzc (pl:Nat->Option (Nat×Nat)):∀(ps:List (Nat×Option (List A))) (l r:List A),ZpU pl l ps=some r->r.length=l.length
 |[],l,r,h=>by simp only[ZpU,oinj] at h;subst h;rfl
 |(i,v)::ps,l,r,h=>by
  simp only[ZpU] at h;split at h
  ·split at h
   ·simp at h
   ·split at h
    ·rename_i c hc;rw[Zzc pl ps _ _ h,ZEI _ _ _ _ hc]
    ·simp at h
  ·simp at h
theorem Zqv {x:Ctx} (hm:MK x s.mem w) {vs:List (Nat×Value)} (hfst:ps.map (·.1)=vs.map (·.1)) (hps:PsOk x ps vs)
  (h:Zdt P s t n ps=some res):
  res.bd=s.bd/\res.sd=s.sd/\∃v w' x',(Instr.buildSlice t n vs.toArray).run P w=.ok v w'/\RV x' res.v v/\MK x' res.m w'/\Ext x x'/\Step x w w':=by
 unfold Zdt at h;split at h
 case h_2=>simp at h
 rename_i elem hu;split at h
 case h_2=>simp at h
 rename_i r zl hel hzl;obtain⟨i,z,hi,hz,hzs,hsz,hby,hw⟩:=ZhJ hel;split at h
 case h_2=>simp at h
 rename_i hbig;simp only[YG] at hbig;split at h
 case h_2=>simp at h
 rename_i l hfill;split at h
 case h_2=>simp at h
 rename_i rows hrows;split at h
 case h_2=>simp at h
 rename_i xs hxs;simp only[Zjt,oinj] at h;subst h;refine⟨rfl,rfl,?_⟩;obtain⟨zv,hzr,hzl'⟩:=Zee (P:=P) (x:=x) hzl;have hzv:zv=z:=by have:=hzr w;simp[zeroValue,typeInfo,hi,hz] at this;exact this.symm
 subst hzv;have hzlen:zl.length=i.size:=by rw[hzl'.length,Array.length_toList,hzs]
 let Z:List Value:=(List.range (n*i.size)).map λk=>zv.cells.toList[k%i.size]?.getD undef
 have hZ:RL x (repL zl n) Z:=by
  refine RL.of_nth (by simp[Z,Zht,hzlen]) λk b hb=> ?_
  have hk:k<n*i.size:=by have:=Z9 hb;rwa [Zht,hzlen] at this
  rw[ZsI zl n k (by rw[hzlen];exact hk),hzlen] at hb;obtain⟨u,e1,e2⟩:=hzl'.nth _ _ hb;exact⟨u,by simp only[Z];rw[YaL,YaH hk];simp only[Option.map_some,e1,Option.getD_some],e2⟩
 obtain⟨D,hfl,hD⟩:=ZjO (x:=x) (λj=>some (j*r.wid,r.wid)) ps vs (repL zl n) l Z hfst hps hZ hfill;have hzeros:(if n*i.size=0 then (pure #[]:Sem (Array Value)) else do pure (<-zeroValue elem).cells).run P w=.ok (if n*i.size=0 then #[] else zv.cells) w:=by
  split
  ·rfl
  ·simp[hzr w]
 have hZa:∀C:Array Value,(n*i.size=0\/C=zv.cells)->((Array.range (n*i.size)).map (C[· %C.size]!))=Z.toArray:=by
  intro C hC;apply Yax;simp only[YaF,Array.toList_range];simp only[Z];apply List.map_congr_left;intro k hk;rw[YaK] at hk;rcases hC with hC|hC
  ·omega
  ·subst hC;rw[hzs];have hlt:k%i.size<zv.cells.size:=by rw[hzs];exact Nat.mod_lt _ hsz
   rw[getElem!_pos zv.cells _ hlt];simp[hlt]
 have hrun:(Instr.buildSlice t n vs.toArray).run P w=.ok (.slice (some ⟨w.heap.size,0,none⟩) n n) (w.alloc (.cells D.toArray elem)):=by
  have hnb:¬(n*i.size>2^24):=by rw[hw] at hbig;omega
  have hfl':Instr.fill (λj=>some (j*i.size,i.size)) Z.toArray vs=some D.toArray:=by rw[<-hw];exact hfl
  have hZ1:=hZa #[];by_cases h0:n*i.size=0
  ·have e1:=hZa #[] (.inl h0);simp only[h0] at e1;simp at e1;simp[Instr.buildSlice,run_underlying hu,sizeOf,typeInfo,hi,h0,newRow];rw[e1,hfl'];rfl
  ·have e1:=hZa zv.cells (.inr rfl);simp[Instr.buildSlice,run_underlying hu,sizeOf,typeInfo,hi,hnb,h0,newRow,hzr w];rw[e1,hfl'];rfl
 obtain⟨q1,q2⟩:=ZiX r.wid n l rows hrows;have hl0:l.length=n*r.wid:=by rw[Zzc _ _ _ _ hfill,Zht,hzlen,hw]
 obtain⟨q3,q4⟩:=Zk7 hxs;have hxl:xs.length=n:=q3.trans q1;have hrow:∀i' j d,i'<xs.length->nth (elN r xs i') j=some d->∃u,D[i'*r.wid+j]? =some u/\RA x.bare d u:=by
  intro i' j d hi' hd;obtain⟨y,hy⟩:=Zda (l:=rows) (n:=i') (by rw[q1];omega);obtain⟨xv,e1,e2⟩:=q4 i' y hy;obtain⟨e3,e4⟩:=q2 i' y hy;have hy2:RL x y ((D.drop (i'*r.wid)).take r.wid):=by rw[e3];exact (hD.drop _).take _
  have hen:=R.decW_ok e2 hy2;have hel':elN r xs i'=r.enc xv:=by simp[elN,Ys,e1]
  have hj:=ZjP hd;rw[hel'] at hd;obtain⟨u,f1,f2⟩:=hen.nth j d hd;refine⟨u,?_,f2.plain (λb o v e=>e) (R.enc_plain _ _ _ (ZbB hd))⟩;rw[YI,YZ hj,YN] at f1;exact f1
 have hnm:xs.length<=maxLen:=by rw[hxl];have:n*1<=n*r.wid:=YaP _ (by omega);simp only[maxLen];omega
 have hDl:D.length=n*r.wid:=by rw[<-hD.length,hl0]
 obtain⟨m1,m2⟩:=hm.addS (s:={blk:=some (w.heap.size,n),na:=none,n:=n,w:=r.wid,ver:=0,fc:=0}) (g:={r:=r,T:=elem,l:=xs,ver:=0,fzn:=false,ffz:=false,lit:=true,ub:=n+1}) (ZL.alloc w (.cells D.toArray elem)) (λp' c' e=>by simp at e;omega)
  (by
   refine⟨rfl,hxl.symm,rfl,λe=>by simp at e,λp' c' e=> ?_,λ_=>rfl,λe=>by simp at e,λ_=>by simp[hxl]⟩;simp only[oinj,pinj] at e;obtain⟨rfl,rfl⟩:=e
   exact⟨D,heap_alloc_new w _,hDl,Ye _,by rw[<-hxl];exact hnm,λi' j d hi' hd=>hrow i' j d (by rw[hxl];exact hi') hd,Yr _,λo ho=>by simp at ho,λo _=>hm.fz_new (Ye _) o⟩)
 refine⟨_,_,_,hrun,?_,m1,m2,(ZL.alloc w _).step hm rfl rfl rfl⟩;have hsl:=hm.sl;refine .tip _ _ _ {blk:=some (w.heap.size,n),na:=none,n:=n,w:=r.wid,ver:=0,fc:=0} _ (by rw[Zaj,<-hsl,Zo];simp) (Yr _) (λ_=> ?_) trivial;simp[tipVal]
theorem ZK2 {α:Type} (x:α):∀n,(rep x n).length=n
 |0=>rfl
 |n+1=>by simp[rep,ZK2 x n]
theorem ZEa {α:Type} (x d:α):∀(n i:Nat),i<n->(rep x n).getD i d=x
 |0,i,h=>by omega
 |n+1,0,_=>rfl
 |n+1,i+1,h=>by simpa [rep] using ZEa x d n i (by omega)
theorem Zu2 {x:Ctx} (hm:MK x s.mem w) {la ca:A} {vl vc:Value} (hl:RA x la vl) (hc':RA x ca vc) (h:Zfr P s t la ca=some res) (hc:res.chk≠some false):
  res.bd=s.bd/\res.sd=s.sd/\∃v w' x',(Instr.makeSlice t vl vc).run P w=.ok v w'/\RV x' res.v v/\MK x' res.m w'/\Ext x x'/\Step x w w':=by
 unfold Zfr at h;split at h
 case h_2=>simp at h
 rename_i elem ll lk l lc ck c hu;obtain⟨rfl,_⟩:=ZcX hl;obtain⟨rfl,_⟩:=ZcX hc';split at h
 case h_2=>simp at h
 rename_i r zl hel hzl;obtain⟨i,z,hi,hz,hzs,hsz,hby,hw⟩:=ZhJ hel;split at h
 case h_2=>simp at h
 rename_i x0 hx0;split at h
 case h_2=>simp at h
 rename_i chk hchk;simp only[Zjt,oinj] at h;subst h;have hb:=ZkQ hchk hc;simp only[Yc,Yk] at hb;obtain⟨⟨h0,h1⟩,h2⟩:=hb;have h2:c<=1073741824:=h2;obtain⟨zv,hzr,hzl'⟩:=Zee (P:=P) (x:=x) hzl;have hzv:zv=z:=by have:=hzr w;simp[zeroValue,typeInfo,hi,hz] at this;exact this.symm
 subst hzv;have hen:=R.decW_ok hx0 hzl'
 have hr:=run_make (P:=P) w t elem i zv hu hi hz lk ck l c h0 h1 (by
  have:(i.bytes:Int)*c<=65536*1073741824:=Int.mul_le_mul (by omega) (by omega) (by omega) (by omega)
  omega) (by omega)
 have hCl:(madeCells zv.cells (c.toNat*i.size)).toList.length=c.toNat*r.wid:=by rw[Array.length_toList,size_madeCells,hw]
 obtain⟨m1,m2⟩:=hm.addS (s:={blk:=some (w.heap.size,c.toNat),na:=none,n:=l.toNat,w:=r.wid,ver:=0,fc:=0}) (g:={r:=r,T:=elem,l:=rep x0 l.toNat,ver:=0,fzn:=false,ffz:=false,lit:=ll,ub:=0}) (ZL.alloc w (.cells (madeCells zv.cells (c.toNat*i.size)) elem)) (λp' c' e=>by simp at e;omega)
  (by
   refine⟨rfl,by simp[ZK2],rfl,λe=>by simp at e,λp' c' e=> ?_,λ_=>rfl,λe=>by simp at e,λe=>by simp at e⟩;simp only[oinj,pinj] at e;obtain⟨rfl,rfl⟩:=e;refine⟨(madeCells zv.cells (c.toNat*i.size)).toList,heap_alloc_new w _,hCl,(show l.toNat<=c.toNat by omega),by simp only[maxLen];omega,λi' j d hi' hd=> ?_,Yr _,λo ho=>by simp at ho,λo _=>hm.fz_new (Ye _) o⟩;have hi':i'<l.toNat:=hi';have hj:j<r.wid:=ZjP hd;have hel':elN r (rep x0 l.toNat) i'=r.enc x0:=by simp only[elN];rw[ZEa _ _ _ _ hi']
   rw[hel'] at hd;obtain⟨u,e1,e2⟩:=hen.nth j d hd;refine⟨u,?_,e2.plain (λ_ _ _ e=>e) (R.enc_plain _ _ _ (ZbB hd))⟩;have hlt:i'*r.wid+j<c.toNat*i.size:=by have h3:(i'+1)*r.wid<=c.toNat*r.wid:=YQ _ (by omega);rw[Yaz] at h3;rw[hw] at*;omega
   simp only[madeCells,YaF,Array.toList_range,YaL,YaH hlt,Option.map_some];have hj':j<zv.cells.size:=by rw[hzs,<-hw];exact hj
   have hmod:(i'*r.wid+j)%zv.cells.size=j:=by rw[hzs,<-hw,Nat.mul_comm,Nat.mul_add_mod,YaX hj]
   rw[hmod,getElem!_pos zv.cells _ hj']
   simpa [hj'] using e1)
 refine⟨rfl,rfl,_,_,_,hr,?_,m1,m2,(ZL.alloc w _).step hm rfl rfl rfl⟩;have hsl:=hm.sl;refine .tip _ _ _ {blk:=some (w.heap.size,c.toNat),na:=none,n:=l.toNat,w:=r.wid,ver:=0,fc:=0} _ (by rw[Zaj,<-hsl,Zo];simp) (Yr _) (λ_=> ?_) trivial;simp[tipVal]
theorem ZXi {x:Ctx} (hm:MemR x s.mem w) {ty:TypeId} {v:V} {vv:Value} (hv:RV x v vv) (h:lenA P s t v=some res):
  res.m=s.mem/\res.bd=s.bd/\res.sd=s.sd/\∃u,(∀w',(Builtin.len_ #[t] ty #[vv]).run P w'=.ok u w')/\RV x res.v u:=by
 have fin:∀(lit:Bool) (n:Nat) (u:Value),n<=maxLen->u=goInt n->RV x (.w (.one (.int lit .i64 (n:Int)))) u:=by intro lit n u hn hu;obtain⟨e1,e2⟩:=ZXy hn;rw[hu,e2];exact .int _ _ _ _ e1
 unfold lenA at h;split at h
 ·rename_i e hu;simp only[Zbs,oinj] at h;subst h;have hv:RA x .nilsl vv:=hv;cases hv;exact⟨rfl,rfl,rfl,_,λw'=>ZsD (P:=P) (w:=w') (ty:=ty) hu none 0 0,fin true 0 _ (Yr _) rfl⟩
 ·rename_i e r lit _ _ l hu;simp only[Zbs,oinj] at h;subst h;obtain⟨a,cap,news,rfl,SX,_⟩:=Zss hm (show RA x (.lst _ _ _ _ l) vv from hv);exact⟨rfl,rfl,rfl,_,λw'=>ZsD (P:=P) (w:=w') (ty:=ty) hu a l.length cap,fin lit l.length _ SX.hml rfl⟩
 ·rename_i e hh ver hu;split at h
  case h_2=>simp at h
  rename_i g hg;simp only[Zbs,oinj] at h;subst h;obtain⟨si,hs,hok,rfl⟩:=Zgd hm (show RA x (.tip hh ver) vv from hv) hg;obtain⟨a,cap,news,e1,SX,_⟩:=Zsq hok;rw[e1];exact⟨rfl,rfl,rfl,_,λw'=>ZsD (P:=P) (w:=w') (ty:=ty) hu a g.l.length cap,fin g.lit g.l.length _ SX.hml rfl⟩
 ·rename_i n e hu;split at h
  case h_2=>simp at h
  rename_i hn;simp only[YG,most] at hn;simp only[Zbs,oinj] at h;subst h;exact⟨rfl,rfl,rfl,_,λw'=>ZsC (P:=P) (w:=w') (ty:=ty) hu vv,fin true n _ (by simp only[maxLen];omega) rfl⟩
 ·simp at h
theorem ZDe {x:Ctx} (hm:MemR x s.mem w) {src dst:TypeId} {xa:A} {vx:Value} (hx:RA x xa vx) (h:ZjV P s src dst xa=some res):
  res.m=s.mem/\res.bd=s.bd/\res.sd=s.sd/\∃v,(convert src dst vx).run P w=.ok v w/\RV x res.v v:=by
 unfold ZjV at h;split at h
 ·rename_i k1 k hs hd;split at h
  case h_2=>simp at h
  rename_i l k2 n;simp only[Zbs,oinj] at h;subst h;obtain⟨rfl,_⟩:=ZcX hx;exact⟨rfl,rfl,rfl,.int k (k.wrap n),by simp[convert,run_underlying hs,run_underlying hd,Conv.intToInt],.int _ _ _ _ (Zau _ _)⟩
 ·rename_i e hs hd;split at h
  case h_2=>simp at h
  rename_i he;split at h
  case h_2=>simp at h
  rename_i q hq;simp only[Zbs,oinj] at h;subst h;obtain⟨a,cap,news,rfl,SX⟩:=Zsn hm hx hq;refine⟨rfl,rfl,rfl,?_⟩;have hql:List Int:=q.l;have hnews:news=List.map (Value.int .u8) q.l:=by
   apply List.ext_getElem?;intro j;have hlen:news.length=q.l.length:=by rw[SX.hlen];simp[R.wid]
   by_cases hj:j<q.l.length
   ·obtain⟨u,e1,e2⟩:=SX.hrow j 0 (.int false .u8 (q.l.getD j (0:Int))) hj rfl;simp only[R.wid,Nat.mul_one,Nat.add_zero] at e1;rw[e1,(ZcX e2).1];simp[Ys,hj]
   ·rw[YS (by omega),YS (by simp;omega)]
  refine⟨.string (ZYm q.l),?_,.str _ _⟩;rw[run_convert_bytes_string w src dst e a q.l.length cap hs he hd];cases a with
  |none=>
   have:=SX.hnone rfl;rw[this];rfl
  |some p=>
   refine run_bytesToString w p q.l.length cap q.l ?_;rw[<-hnews];have:=run_loadCells_list (P:=P) (w:=w) p news (SX.hcell p rfl);rw[SX.hlen] at this;simpa [R.wid] using this
 ·simp at h
theorem ZKC {x:Ctx} {m:Mem} (hm:MK x m w) {h i o:Nat} {g:Stg} {si:SI} {p cap:Nat} (hg:nth m.Sg h=some g) (hs:nth x.S h=some si) (hb:si.blk=some (p,cap)) (hfz:g.fzn=false) (hi:i<g.l.length)
  {row l:List A} {vs:List Value} {y:g.r.den} (hput:putN (elN g.r g.l i) o l=some row) (hdec:g.r.decW row=some y) (hl:RL x l vs) (hne:l≠[]):
  ∃C:List Value,w.heap[p]? =some (.cells C.toArray g.T (0,0))/\i*g.r.wid+o+vs.length<=C.length/\
   MK x {m with Sg:=setN m.Sg h {g with l:=g.l.set i y}} (w.setRow p (C.take (i*g.r.wid+o)++vs++C.drop (i*g.r.wid+o+vs.length)).toArray)/\
   Step x w (w.setRow p (C.take (i*g.r.wid+o)++vs++C.drop (i*g.r.wid+o+vs.length)).toArray):=by
 have hok:=hm.stg h g si hg hs;obtain⟨C,c1,c2,c3,c4,c5,c6,c7,c8⟩:=hok.row p cap hb;obtain⟨e1,e2⟩:=Zje hput;have hlen:=hl.length;have hin:=e2 hne;rw[elN,R.enc_len] at hin;have hown:=hm.sown h si p cap hs hb;have hn:=hok.n;have hbig:(i+1)*g.r.wid<=C.length:=by rw[c2];exact YQ _ (by omega)
 rw[Yaz,Nat.one_mul] at hbig;refine⟨C,c1,by omega,?_,⟨rfl,rfl,rfl,by simp,λk hk=>setRow_other w p k _ (λe=>hk (e▸hown.1))⟩⟩;have hrow:=setRow_heap w p C.toArray (C.take (i*g.r.wid+o)++vs++C.drop (i*g.r.wid+o+vs.length)).toArray g.T (0,0) c1;obtain⟨m1,m2⟩:=hm.setS (w':=w.setRow p (C.take (i*g.r.wid+o)++vs++C.drop (i*g.r.wid+o+vs.length)).toArray) (g':={g with l:=g.l.set i y}) (s':=si) (fz':=x.fz) hg hs (.refl si) (by simp)
  (λk hk hne'=>setRow_other w p k _ (λe=>hne' cap (e▸hb))) (λ_ _ _ e=>e) (λ_ _ _ _=>rfl)
  (λb' o' v' e=>by
   have hbe:b'≠p:=by rintro rfl;rw[hm.nofz hg hs hb hfz o'] at e;simp at e
   rw[World.cell?_of_block (w:=w) (a:=⟨b',o',none⟩) (setRow_other w p b' _ hbe)]
   exact hm.fz b' o' v' e) (λp' c' e=>.inl ⟨c',e⟩)
  (by
   refine⟨hok.ver,by simp[hn],hok.wd,hok.nil,λp' c' e=> ?_,hok.fzn,hok.ffz,by simpa [setI] using hok.ub⟩;rw[hb] at e;simp only[oinj,pinj] at e;obtain⟨rfl,rfl⟩:=e;have hfc:si.fc=0:=hok.fzn hfz;refine⟨_,hrow,?_,c3,c4,?_,by rw[hfc];exact Yr _,λo' ho=>by rw[hfc] at ho;simp at ho,c8⟩
   ·simp only[Yd,YF,YR];rw[<-c2];omega
   ·intro i' j d hi' hd;have hj:j<g.r.wid:=ZjP hd;show ∃v,(C.take (i*g.r.wid+o)++vs++C.drop (i*g.r.wid+o+vs.length))[i'*g.r.wid+j]? =some v/\_;have hout:∀k,(k<i*g.r.wid+o\/i*g.r.wid+o+vs.length<=k)->(C.take (i*g.r.wid+o)++vs++C.drop (i*g.r.wid+o+vs.length))[k]? =C[k]? :=by
     intro k hk;rcases hk with hk|hk
     ·rw[Yn,Yp (by simp;omega),YI,YZ hk]
     ·rw[YU (by simp;omega),YN];congr 1;simp;omega
    by_cases hii:i'=i
    ·subst hii;have hel:elN g.r (g.l.set i' y) i'=g.r.enc y:=by simp[elN,Ys,hi]
     have hd:nth (elN g.r (g.l.set i' y) i') j=some d:=hd;rw[hel] at hd;have hR0:RL x.bare (elN g.r g.l i') ((C.drop (i'*g.r.wid)).take g.r.wid):=by
      refine RL.of_nth (by rw[elN,R.enc_len];simp;omega) λk b hb'=> ?_
      obtain⟨u,f1,f2⟩:=c5 i' k b (by rw[hn];exact hi) hb';exact⟨u,by rw[YI,YZ (ZjP hb'),YN];exact f1,f2⟩
     have hR1:RL x (elN g.r g.l i') ((C.drop (i'*g.r.wid)).take g.r.wid):=RL.plain (x:=x.bare) (x':=x) (λb o v (e:x.fz b o=some v)=>e) (R.enc_plain _ _) hR0;have hR2:RL x row (((C.drop (i'*g.r.wid)).take g.r.wid).take o++vs++((C.drop (i'*g.r.wid)).take g.r.wid).drop (o+vs.length)):=by rw[e1,hlen];exact ((hR1.take o).append hl).append (hR1.drop _)
     obtain⟨u,f1,f2⟩:=(R.decW_ok hdec hR2).nth j d hd;refine⟨u,?_,f2.plain (λ_ _ _ e=>e) (R.enc_plain _ _ _ (ZbB hd))⟩;rw[<-f1];have hL1:(((C.drop (i'*g.r.wid)).take g.r.wid).take o).length=o:=by simp;omega
     rcases Yab j o with h1|h1
     ·rw[hout _ (.inl (by omega)),Yn,Yp (by rw[hL1];exact h1),YI,YZ h1,YI,YZ hj,YN]
     ·rcases Yab j (o+vs.length) with h2|h2
      ·rw[Yn,YU (by simp;omega),Yp (by simp;omega)];rw[Yn,YU (by rw[hL1];exact h1),Yp (by rw[hL1];omega)];congr 1;simp;omega
      ·rw[hout _ (.inr (by omega))];rw[YU (by rw[Yd,hL1];exact h2),YN,Yd,hL1,YI,YZ (by omega),YN];congr 1;omega
    ·have hel:elN g.r (g.l.set i y) i'=elN g.r g.l i':=by simp only[elN,Ys];rw[Yai (YaR hii)]
     have hd:nth (elN g.r (g.l.set i y) i') j=some d:=hd;rw[hel] at hd;obtain⟨u,f1,f2⟩:=c5 i' j d hi' hd;refine⟨u,?_,f2.plain (λ_ _ _ e=>e) (R.enc_plain _ _ _ (ZbB hd))⟩;rw[hout]
     ·exact f1
     ·rcases Yab i' i with h1|h1
      ·left;have:(i'+1)*g.r.wid<=i*g.r.wid:=YQ _ h1;rw[Yaz] at this;omega
      ·right;have:(i+1)*g.r.wid<=i'*g.r.wid:=YQ _ (by omega)
       rw[Yaz] at this;omega)
 have hxx:({x with S:=setN x.S h si,fz:=x.fz}:Ctx)=x:=by have:=ZKD hs;rw[this]
 rw[hxx] at m1;exact m1
end Go.S3
namespace Go.S3
def ZQp (P:Program) (x:Ctx) (a:Act) (o:Oper) (w:World) (r:Res):Prop:=
 ∃v w' x',ZZO P a o w v w'/\RV x' r.v v/\MK x' r.m w'/\Ext x x'/\Step x w w'
def ZJi (P:Program) (x:Ctx) (m0:Mem) (s:St) (a:Act) (o:Oper) (w:World) (r:Res):Prop:=
 r.m=s.mem/\r.bd=s.bd/\r.sd=s.sd/\∃v w' x',(execOp a.eval o).run P w=.ok (.value v) w'/\RV x' r.v v/\MK x' m0 w'/\Ext x x'/\ZdH w w'
variable {s:St} {a:Act} {o:Oper} {w:World} {r:Res}
theorem ZJi.sound {P:Program} {x:Ctx} (hm:MK x s.mem w) (h:ZJi P x s.mem s a o w r):ZQp P x a o w r:=by obtain⟨h1,_,_,v,w',x',hr,hv,hm',he,hw⟩:=h;exact⟨v,w',x',.inl hr,hv,h1▸hm',he,hw.step hm⟩
variable {m0:Mem}
theorem ZJi.of {P:Program} {x:Ctx} (hm:MK x m0 w) (h1:r.m=s.mem) (h2:r.bd=s.bd) (h3:r.sd=s.sd) {v:Value}
  (hr:(execOp a.eval o).run P w=.ok (.value v) w) (hv:RV x r.v v):ZJi P x m0 s a o w r:=
 ⟨h1,h2,h3,v,w,x,hr,hv,hm,Ext.refl x,ZdH.refl w⟩
variable {l:List A}
theorem Zlp {P:Program} {x:Ctx} (hm:MK x s.mem w) {C:List Value} {T:TypeId} (hl:RL x l C)
  (h:(execOp a.eval o).run P w=.ok (.value (.pointer (some ⟨w.heap.size,0,none⟩))) (w.alloc (.cells C.toArray T))):ZQp P x a o w (Zes s l):=by obtain⟨h1,h2,h3⟩:=Zym hm T hl;exact⟨_,_,_,.inl h,h3,h1,Zvm x _,h2⟩
def Zvj:Op->Bool
 | .alloc _| .box .. | .store .. | .makeSlice .. | .call _=>false
 |_=>true
theorem Zyi (s:St) (a:Act) (l:List (Nat×Operand)):(Zeq s l).length=(l.map λp=>(p.1,a.eval p.2)).length:=by have:=congrArg List.length (Zfm s l);simpa using this
theorem Zzm {x:Ctx}:∀{vs:List V} {l:List A} {args:List Value},ZlC vs=some l->RVs x vs args->RL x l args
 |[],l,args,h,hv=>by
  simp only[ZlC,oinj] at h;subst h;cases args with
  |nil=>trivial
  |cons _ _=>exact hv.elim
 | .w (.one a)::vs,l,v::args,h,hv=>by
  simp only[ZlC] at h;split at h
  ·rename_i r hr;simp only[oinj] at h;subst h;exact⟨hv.1,Zzm hr hv.2⟩
  ·simp at h
 | .w (.agg _)::_,_,_,h,_=>by simp[ZlC] at h
 | .w .junk::_,_,_,h,_=>by simp[ZlC] at h
 | .tup _::_,_,_,h,_=>by simp[ZlC] at h
 | .w (.one _)::_,_,[],_,hv=>hv.elim
theorem ZP1 {x:Ctx} {f:FuncId} {cs:List Value} (h:RL x l cs):RA x (.clo f l) (.func (.func f) #[] cs.toArray):=by
 refine .clo x f l cs (λj=>(cs[j]?).getD undef) (by rw[Zaj,Zaj,h.length]) (λj a ha=> ?_) (λj a ha=> ?_)
 ·obtain⟨v,e,_⟩:=h.nth j a ha;rw[Zo,e];rfl
 ·obtain⟨v,e,hr⟩:=h.nth j a ha;rw[e];exact hr
theorem ZrI {x:Ctx} {s:St} {w:World} (hm:MemR x s.mem w):∀{l:List (Nat×Operand)} {ps:List (Nat×Option (List A))} {s':St},
  (l.all λp=>match opd s p.2 with|some v=>Zct s.mem v|none=>false)=true->ZbE s (Zeq s l)=some (ps,s')->
  s'=s/\(∀vs,PsOk x (Zeq s l) vs->PsOk x ps vs)/\ps.map (·.1)=(Zeq s l).map (·.1)
 |[],ps,s',_,h=>by simp only[Zeq,ZbE,oinj,pinj] at h;obtain⟨rfl,rfl⟩:=h;exact⟨rfl,λvs hv=>hv,rfl⟩
 |(i,y)::l,ps,s',hf,h=>by
  simp only[List.all_cons,Yc] at hf;simp only[Zeq] at h;have hy:=hf.1;cases hv:opd s y with
  |none=>rw[hv] at hy;simp at hy
  |some v=>
   rw[hv] at hy;simp only at hy;simp only[opdC,hv,Option.bind_some] at h;cases hc:v.cells with
   |none=>rw[hc] at h;simp[ZbE] at h
   |some c=>
    rw[hc] at h;simp only[ZbE] at h;split at h
    ·rename_i c' s1 h1;have hfc:c.all (Zdo s.mem)=true:=by
      cases v with
      |w y'=>
       cases y' with
       |one b=>simp only[V.cells,W.cells,oinj] at hc;subst hc;simpa [Zct] using hy
       |agg q=>simp only[V.cells,W.cells,oinj] at hc;subst hc;exact hy
       |junk=>simp[V.cells,W.cells] at hc
      |tup _=>simp[V.cells] at hc
     obtain⟨rfl,q1⟩:=ZkZ (x:=x) hm hfc h1;split at h
     ·rename_i r' s2 h2;simp only[oinj,pinj] at h;obtain⟨rfl,rfl⟩:=h;obtain⟨rfl,q2,q3⟩:=ZrI hm hf.2 h2;refine⟨rfl,λvs hvs=> ?_,by simp only[Zeq,YaW,q3]⟩;cases vs with
      |nil=>intro j d u _ e;simp[Zr] at e
      |cons v0 vs=>
       intro j d u e1 e2 k e3;cases j with
       |zero=>
        simp only[nth,oinj] at e1 e2;subst e1;subst e2;simp only[oinj] at e3;subst e3;exact q1 _ (hvs 0 (i,some c) v0 (by simp[Zeq,nth,opdC,hv,hc]) rfl c rfl)
       |succ j=>exact q2 vs (λj d u e1 e2=>hvs (j+1) d u (by simpa [Zeq,nth] using e1) (by simpa [nth] using e2)) j d u e1 e2 k e3
     ·simp at h
    ·simp at h
variable {E:Env} {op:Op}
set_option maxHeartbeats 2000000 in
theorem Zzd {x:Ctx} (hf:RF x s.Sl a.tmps) (hr:MemR x s.mem w) (hm:MK x m0 w) (ho:o.op=op) (hst:Zvj op=true)
  (hz:Zfv E s op=true) (h:evOp E s op=some r) (hc:r.chk≠some false):ZJi E.P x m0 s a o w r:=by
 have hcut:∀c,Cut (len s.mem.Bx) tip1 c x x:=λc=>Cut.refl _ c x
 unfold evOp at h;split at h
 ·--move
  rename_i y;split at h
  ·rename_i v hv;simp only[valR,oinj] at h;subst h;exact .of hm rfl rfl rfl (by simp[execOp,ho]) (ZdP hf hv)
  ·simp at h
 ·--assign
  rename_i y;split at h
  ·rename_i v hv;simp only[valR,oinj] at h;subst h;exact .of hm rfl rfl rfl (by simp[execOp,ho]) (ZdP hf hv)
  ·simp at h
 ·--pick
  rename_i c p q;split at h
  ·rename_i b hb;have hcb:=Zc1 (Zaw hf hb);cases b with
   |true=>
    simp only at h;split at h
    ·rename_i v hv;simp only[valR,oinj] at h;subst h;exact .of hm rfl rfl rfl (by simp[execOp,ho,hcb,asBool]) (ZdP hf hv)
    ·simp at h
   |false=>
    simp only at h;split at h
    ·rename_i v hv;simp only[valR,oinj] at h;subst h;exact .of hm rfl rfl rfl (by simp[execOp,ho,hcb,asBool]) (ZdP hf hv)
    ·simp at h
  ·rename_i b hb;have hcb:=Zc1 (Zaw hf hb);split at h
   ·rename_i y y' hy hy';split at h
    ·rename_i z hz';simp only[valR,oinj] at h;subst h;refine .of (v:=if b then a.eval p else a.eval q) hm rfl rfl rfl (by simp[execOp,ho,hcb,asBool]) ?_;refine ZZe (hcut b) hz' ?_;cases b
     ·exact ZdP hf hy'
     ·exact ZdP hf hy
    ·simp at h
   ·simp at h
  ·simp at h
 ·simp[Zvj] at hst
 ·simp[Zvj] at hst
 ·--build
  rename_i t parts;split at h
  ·rename_i z pl hz' hpl;split at h
   ·rename_i l hl;simp only[valR,oinj] at h;subst h;obtain⟨v,h1,h2⟩:=ZTp (P:=E.P) hf hz' hpl hl;exact .of hm rfl rfl rfl (by simp[execOp,ho,h1 w]) h2
   ·simp at h
  ·simp at h
 ·--load
  rename_i t p;split at h
  ·rename_i pa hp;split at h
   ·rename_i y hy;simp only[valR,oinj] at h;subst h;obtain⟨u,h1,h2⟩:=ZF6 hr (Zaw hf hp) hy;exact .of hm rfl rfl rfl (by simp[execOp,ho,h1 w (ZL.refl w)]) h2
   ·simp at h
  ·simp at h
 ·simp[Zvj] at hst
 ·--nilCheck
  rename_i y;split at h
  ·rename_i b off hy;simp only[Zbs,oinj] at h;subst h;have hv:=Zaw hf hy;refine .of (v:=a.eval y) hm rfl rfl rfl ?_ hv;generalize hev:a.eval y=pv at*;cases hv with
   |loc _ _ _ q hq=>simp[execOp,ho,hev]
  ·rename_i l hy;simp only[Zbs,oinj] at h;subst h;have hv:=Zaw hf hy;refine .of (v:=a.eval y) hm rfl rfl rfl ?_ hv;generalize hev:a.eval y=pv at*;cases hv with
   |fp _ _ q o c hf' hr=>simp[execOp,ho,hev]
  ·rename_i hh ver i off hy;split at h
   ·rename_i g hg;simp only[Zbs,oinj] at h;subst h;have hv:=Zaw hf hy;refine .of (v:=a.eval y) hm rfl rfl rfl ?_ hv;obtain⟨_,_,_,_,_,_,_,_,e⟩:=ZQ1 hr hv hg;simp[execOp,ho,e]
   ·simp at h
  ·simp at h
 ·--binOp
  rename_i op t y y' yt;split at h
  ·rename_i p q hp hq;split at h
   ·rename_i c z hz';simp only[oinj] at h;subst h;obtain⟨v,h1,h2⟩:=ZXZ y y' (ZdP hf hp) (ZdP hf hq) hz' hc;refine .of (v:=v) hm rfl rfl rfl ?_ h2;have h3:=h1 w;simp only[execOp,ho,Sem.run_bind,Sem.run_pure] at h3|-;rw[h3];rfl
   ·simp at h
  ·rename_i p q hp hq;obtain⟨C,e1,e2⟩:=ZdP hf hp;obtain⟨D,e3,e4⟩:=ZdP hf hq;split at h
   ·split at h
    ·rename_i e he;simp only[Zbs,oinj] at h;subst h;refine .of (v:=.bool e) hm rfl rfl rfl ?_ (.bool _ _ _);obtain⟨h1,h2⟩:=ZPx (w:=w) he e2 e4;simp only[execOp,ho,e1,e3,Sem.run_bind,h2 .eql y y',Result.andThen_ok,binOp,h1,Sem.run_pure]
    ·simp at h
   ·split at h
    ·rename_i e he;simp only[Zbs,oinj] at h;subst h;refine .of (v:=.bool (!e)) hm rfl rfl rfl ?_ (.bool _ _ _);obtain⟨h1,h2⟩:=ZPx (w:=w) he e2 e4;simp only[execOp,ho,e1,e3,Sem.run_bind,h2 .neq y y',Result.andThen_ok,binOp,h1,Sem.run_pure]
    ·simp at h
   ·simp at h
  ·simp at h
 ·--unOp
  rename_i op t y;split at h
  ·rename_i p hp;rw[Yan] at h;obtain⟨z,hz',h⟩:=h;simp only[Zbs,oinj] at h;subst h;obtain⟨v,h1,h2⟩:=ZYc (P:=E.P) (Zaw hf hp) hz';exact .of hm rfl rfl rfl (by simp[execOp,ho,h1 w]) h2
  ·simp at h
 ·--convert
  rename_i src dst y;split at h
  ·rename_i p hp;obtain⟨e1,e2,e3,v,h1,h2⟩:=ZDe hr (Zaw hf hp) h;exact .of hm e1 e2 e3 (by simp[execOp,ho,h1]) h2
  ·simp at h
 ·--fieldAddr
  rename_i t y f;split at h
  ·rename_i p fd hp hfd;split at h
   ·rename_i n hn;rw[Yan] at h;obtain⟨z,hz',h⟩:=h;simp only[Zbs,oinj] at h;subst h;obtain⟨fs,hu,hfs⟩:=Zlx hfd;obtain⟨q,off,e1,e2⟩:=ZSD hr (Zaw hf hp) hz';refine .of (v:=.pointer (some ⟨q,off+fd.offset,none⟩)) hm rfl rfl rfl ?_ e2;simp[execOp,ho,e1,Instr.fieldAt,run_underlying hu,hfs,Instr.sureAddr,fieldPlace,ZbX hn,Zd4]
   ·simp at h
  ·simp at h
 ·--field
  rename_i t y f;split at h
  ·rename_i l fd hp hfd;split at h
   ·rename_i z hz';simp only[valR,oinj] at h;subst h;obtain⟨fs,hu,hfs⟩:=Zlx hfd;obtain⟨C,e1,e2⟩:=ZdP hf hp;obtain⟨v,h1,h2⟩:=ZRM (P:=E.P) hz' e2;exact .of hm rfl rfl rfl (by simp[execOp,ho,e1,Instr.field,run_underlying hu,hfs,asAgg,h1]) h2
   ·simp at h
  ·simp at h
 ·--index
  rename_i t y i;split at h
  ·rename_i l ia hp hi;obtain⟨e1,e1',e1'',v,e2,e3⟩:=ZO6 (ZdP hf hp) (Zaw hf hi) h hc;exact .of hm e1 e1' e1'' (by simp[execOp,ho,e2]) e3
  ·simp at h
 ·--extract
  rename_i y i;split at h
  ·rename_i l hp;split at h
   ·rename_i z hz';simp only[valR,oinj] at h;subst h;obtain⟨C,e1,e2⟩:=ZdP hf hp;obtain⟨v,h1,h2⟩:=RWs.nth e2 _ _ hz';exact .of hm rfl rfl rfl (by simp[execOp,ho,e1,Instr.extract,h1]) h2
   ·simp at h
  ·simp at h
 ·--indexAddr
  rename_i t y i;split at h
  ·rename_i xa ia hp hi;obtain⟨e1,e2,e3,v,h1,h2⟩:=ZjH hr (Zaw hf hp) (Zaw hf hi) h hc;exact .of hm e1 e2 e3 (by simp[execOp,ho,h1]) h2
  ·simp at h
 ·simp[Zvj] at hst
 ·--slice
  rename_i t y low high max;split at h
  ·rename_i xa hp;have hfr:Zdo s.mem xa=true:=by simp only[Zfv,Zyj hp,Zct] at hz;exact hz
   unfold ZqQ at h;split at h
   ·rename_i x' s' hfz;obtain⟨rfl,hv⟩:=Zk0 hr hfr hfz;split at h
    ·simp at h
    ·rename_i hnt;obtain⟨e1,e2,e3,v,h1,h2⟩:=Zwn hf hr (hv _ (Zaw hf hp)) (λh v e=>hnt h v e) h hc;refine .of (v:=v) hm e1 e2 e3 ?_ h2;have:=h1 w;simp only[execOp,ho,Sem.run_bind,Option.map_map] at this|-;rw[this];rfl
   ·simp at h
  ·simp at h
 ·--buildSlice
  rename_i t n parts;have hg:Zy3 E=false:=by
   cases e:Zy3 E with
   |false=>rfl
   |true=>simp[Zfv,e] at hz
  simp only[hg] at h
  have hz:(parts.toList.all λp=>match opd s p.2 with
   |some v=>Zct s.mem v
   |none=>false)=true:=by simp only[Zfv,Yc] at hz;exact hz.2
  unfold ZeG at h;split at h
  ·rename_i ps s' hfz;have hps:PsOk x (Zeq s parts.toList) (parts.toList.map λp=>(p.1,a.eval p.2)):=λi c v h1 h2=>ZgR hf parts.toList i c v h1 h2
   obtain⟨rfl,hps',hfst⟩:=ZrI hr hz hfz;obtain⟨e1,e2,e3,v,w',x',h1,h2,h3,h4,h5⟩:=Zh8 (P:=E.P) (s:=s') hm (t:=t) (n:=n) (vs:=parts.toList.map λp=>(p.1,a.eval p.2)) (by rw[hfst,Zfm,List.map_map];rfl) (hps' _ hps) h;refine⟨e1,e2,e3,v,w',x',?_,h2,h3,h4,h5⟩;have e:(parts.map λp=>(p.1,a.eval p.2))=(parts.toList.map λp=>(p.1,a.eval p.2)).toArray:=by apply Yax;rw[YaF]
   simp only[execOp,ho,e,Sem.run_bind,h1];rfl
  ·simp at h
 ·--makeFunc
  rename_i f first caps
  split at h
  ·rename_i vs hfirst hvs;split at h
   ·rename_i l hl;simp only[Zbs,oinj] at h;subst h;have hcl:=Zzm hl (ZkH hf hvs);refine .of hm rfl rfl rfl ?_ (ZP1 (f:=f) hcl);have e1:first= #[]:=by apply Yax;simpa using hfirst
    have e2:caps.map a.eval=(caps.toList.map a.eval).toArray:=by apply Yax;rw[YaF]
    simp[execOp,ho,Instr.makeFunc,e1,e2]
   ·simp at h
  ·simp at h
 ·--sliceToArrayPointer
  rename_i t y;split at h
  ·rename_i xa hp;obtain⟨e1,e2,e3,v,h1,h2⟩:=ZQg (Zaw hf hp) h hc;exact .of hm e1 e2 e3 (by simp[execOp,ho,h1]) h2
  ·simp at h
 ·simp at h
theorem ZXI {x:Ctx} (hR:Rel x s a w) (ho:o.op=op) (h:evOp E s op=some r) (hc:r.chk≠some false):
  ZQp E.P x a o w r:=by
 have hf:=hR.f;have hm:=hR.m;by_cases hst:Zvj op=true/\Zfv E s op=true
 ·exact (Zzd hf hm.toR hm ho hst.1 hst.2 h hc).sound hm
 cases op
 case slice t y low high max=>
  simp only[evOp] at h;split at h
  ·rename_i xa hp;unfold ZqQ at h;split at h
   ·rename_i x' s' hfz;obtain⟨x1,m1,e1,r1,k1⟩:=Zk3 hm (Zaw hf hp) hfz;split at h
    ·simp at h
    ·rename_i hnt;obtain⟨q1,q2,q3,v,h1,h2⟩:=Zwn (a:=a) (by rw[k1.sl];exact hf.mono e1) m1.toR r1 (λh v e=>hnt h v e) h hc;refine⟨v,w,x1,.inl ?_,h2,by rw[q1];exact m1,e1,Step.refl x w⟩;have:=h1 w;simp only[execOp,ho,Sem.run_bind,Option.map_map] at this|-;rw[this];rfl
   ·simp at h
  ·simp at h
 case buildSlice t n parts=>
  simp only[evOp] at h;cases hg:Zy3 E with
  |true=>
   simp only[hg] at h;unfold Zf9 at h;split at h
   ·rename_i ps s' hfz;have hps:PsOk x (Zeq s parts.toList) (parts.toList.map λp=>(p.1,a.eval p.2)):=λi c v h1 h2=>ZgR hf parts.toList i c v h1 h2
    obtain⟨x1,m1,e1,r1,hfst,k1⟩:=Zk2 (Zyi s a parts.toList) hm hps hfz;obtain⟨q2,q3,v,w',x',h1,h2,h3,h4,h5⟩:=Zqv (P:=E.P) (s:=s') m1 (t:=t) (n:=n) (vs:=parts.toList.map λp=>(p.1,a.eval p.2)) (by rw[hfst,Zfm,List.map_map];rfl) r1 h;refine⟨v,w',x',.inl ?_,h2,h3,e1.trans h4,(Step.refl x w).trans h5 e1.own⟩;have e:(parts.map λp=>(p.1,a.eval p.2))=(parts.toList.map λp=>(p.1,a.eval p.2)).toArray:=by apply Yax;rw[YaF]
    simp only[execOp,ho,e,Sem.run_bind,h1];rfl
   ·simp at h
  |false=>
  simp only[hg] at h;unfold ZeG at h;split at h
  ·rename_i ps s' hfz;have hps:PsOk x (Zeq s parts.toList) (parts.toList.map λp=>(p.1,a.eval p.2)):=λi c v h1 h2=>ZgR hf parts.toList i c v h1 h2
   obtain⟨x1,m1,e1,r1,hfst,k1⟩:=Zk2 (Zyi s a parts.toList) hm hps hfz;obtain⟨q1,q2,q3,v,w',x',h1,h2,h3,h4,h5⟩:=Zh8 (P:=E.P) (s:=s') m1 (t:=t) (n:=n) (vs:=parts.toList.map λp=>(p.1,a.eval p.2)) (by rw[hfst,Zfm,List.map_map];rfl) r1 h;refine⟨v,w',x',.inl ?_,h2,by rw[q1];exact h3,e1.trans h4,?_⟩
   ·have e:(parts.map λp=>(p.1,a.eval p.2))=(parts.toList.map λp=>(p.1,a.eval p.2)).toArray:=by apply Yax;rw[YaF]
    simp only[execOp,ho,e,Sem.run_bind,h1];rfl
   ·exact h5.step hm
  ·simp at h
 case makeSlice t l c=>
  simp only[evOp] at h;split at h
  ·rename_i la ca hl hcc;obtain⟨_,_,v,w',x',h1,h2,h3,h4,h5⟩:=Zu2 hm (Zaw hf hl) (Zaw hf hcc) h hc;exact⟨v,w',x',.inl (by simp[execOp,ho,h1]),h2,h3,h4,h5⟩
  ·simp at h
 all_goals (try (simp only[Zvj,Zfv,and_self,not_true_eq_false] at hst;done))
 all_goals (simp only[evOp] at h)
 all_goals (try (cases h;done))
 case alloc t=>
  rw[YB] at h;obtain⟨z,hz,rfl⟩:=h;obtain⟨zv,h1,h2⟩:=Zee (P:=E.P) (x:=x) hz;refine Zlp hm (T:=t) h2 ?_;simp[execOp,ho,Instr.alloc,h1,newVar,newRow]
 case box t y=>
  rw[YB] at h;obtain⟨l,hl,rfl⟩:=h;refine Zlp hm (T:=t) (ZuT hf hl) ?_;simp[execOp,ho,Instr.box,newVar,newRow]
 case store t p y=>
  split at h
  ·rename_i pa l hp hl;unfold Zwk at h;split at h
   ·simp at h
   ·rename_i n hn;split at h
    ·simp at h
    ·rename_i hbeq;simp only[Yu] at hbeq;split at h
     ·rename_i b off;split at h
      ·simp at h
      ·rename_i c hcb;split at h
       ·simp at h
       ·rename_i c' hput;simp only[oinj] at h;subst h;have hpv:=Zaw hf hp;have hlv:=ZuT hf hl;have hll:=hlv.length;rw[Zaj] at hbeq;generalize hev:a.eval p=pv at*;cases hpv with
        |loc _ _ _ q hq=>
         by_cases hne:l=[]
         ·subst hne;have hc':c'=c:=by simpa [putN] using hput.symm
          subst hc';have hcs:(a.eval y).cells= #[]:=by
           apply Yax;cases hh:(a.eval y).cells.toList with
           |nil=>rfl
           |cons _ _=>rw[hh] at hll;simp at hll
          have hn0:n=0:=by simpa using hbeq
          subst hn0;refine⟨undef,w,x,.inr ⟨?_,rfl⟩,trivial,?_,Ext.refl x,Step.refl x w⟩
          ·simp[execOp,ho,hev,Instr.storeAt,Instr.sureAddr,storeVar,hcs,ZbX hn,storeCells]
          ·have:setN s.mem.Bx b c'=s.mem.Bx:=by rw[ZK];rw[Zo] at hcb;obtain⟨h1,h2⟩:=YH.1 hcb;rw[<-h2];exact List.set_getElem_self h1
           simp only[this];exact hm
         ·obtain⟨C,T,h1,h2,h3,h4⟩:=ZKE hm hcb hq hput hlv hne;refine⟨undef,_,x,.inr ⟨?_,rfl⟩,trivial,h3,Ext.refl x,h4⟩;have hst:=run_storeCells_at E.P q off T (a.eval y).cells.toList 0 C.toArray w h1 (by simpa using h2) (λv hv=>Zdj (hlv.atomic v hv));have hsz:(a.eval y).cells.size=n:=by rw[hbeq,hll];simp
          simp only[Nat.add_zero] at hst;simp[execOp,ho,hev,Instr.storeAt,Instr.sureAddr,storeVar,hsz,ZbX hn];rw[hst];simp[hsz]
     ·--into an element
      rename_i hh ver i off;split at h
      ·simp at h
      ·rename_i g hg;split at h
       ·simp at h
       ·rename_i hfz;split at h
        ·simp at h
        ·rename_i row hput;split at h
         ·simp at h
         ·rename_i yv hdec;simp only[oinj] at h;subst h;have hpv:=Zaw hf hp;have hlv:=ZuT hf hl;have hll:=hlv.length;rw[Zaj] at hbeq;obtain⟨si,q,cap,hs,hok,hb,h0,hi,hev⟩:=ZQ1 hm.toR hpv hg;obtain⟨hg1,hg2⟩:=ZV hg;have hput:putN (elN g.r g.l i.toNat) off l=some row:=hput;simp only[Yo] at hfz;have hne:l≠[]:=λe=>by rw[e] at hfz;simp[Zve] at hfz
          have hfz:=hfz.1;obtain⟨C,h1,h2,h3,h4⟩:=ZKC hm hg1 hs hb hfz hi hput hdec hlv hne;refine⟨undef,_,x,.inr ⟨?_,rfl⟩,trivial,h3,Ext.refl x,h4⟩;have hst:=run_storeCells_at E.P q (i.toNat*g.r.wid+off) g.T (a.eval y).cells.toList 0 C.toArray w h1 (by simpa using h2) (λv hv=>Zdj (hlv.atomic v hv));have hsz:(a.eval y).cells.size=n:=by rw[hbeq,hll];simp
          simp only[Nat.add_zero] at hst;simp[execOp,ho,hev,Instr.storeAt,Instr.sureAddr,storeVar,hsz,ZbX hn];rw[hst];simp[hsz]
     ·simp at h
  ·simp at h
