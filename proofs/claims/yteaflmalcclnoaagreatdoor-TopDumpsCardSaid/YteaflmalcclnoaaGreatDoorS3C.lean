import Derived.Test.YteaflmalcclnoaaGreatDoorS3B
import Derived.Deep.AppendSrc
import Derived.Deep.Upon
import Derived.DeepKeys
open Go.IntKind (u8 u16 i64)
set_option linter.unusedVariables false
set_option linter.unusedSimpArgs false
namespace Go.S3
variable {P:Program}
variable {lit:Bool} {chk:Option Bool}
theorem Zky {b:Bool} (h:litC lit b=some chk) (hc:chk≠some false):b=true:=by
 unfold litC at h;split at h
 ·split at h
  ·rfl
  ·simp at h
 ·simp only[oinj] at h;subst h;cases b with
  |true=>rfl
  |false=>exact absurd rfl hc
variable {r:R} {i:Nat}
theorem ZE9 {a b:List r.den} (h:i<a.length):elN r (a++b) i=elN r a i:=by simp only[elN,Yl,Yp h]
theorem ZxQ {a b:List r.den} (h:a.length<=i):elN r (a++b) i=elN r b (i-a.length):=by simp only[elN,Yl,YT h]
variable {y:Ctx} {C news:List Value}
theorem ZrZ {x:Ctx} {a b:List r.den} {olds:List Value} (hx:FzLe x y)
  (ho:∀i j d,i<a.length->nth (elN r a i) j=some d->∃u,olds[i*r.wid+j]? =some u/\RA x.bare d u) (hn:∀i j d,i<b.length->nth (elN r b i) j=some d->∃u,news[i*r.wid+j]? =some u/\RA x.bare d u)
  (h1:∀k,k<a.length*r.wid->C[k]? =olds[k]?) (h2:∀k,k<b.length*r.wid->C[a.length*r.wid+k]? =news[k]?):
  ∀i j d,i<(a++b).length->nth (elN r (a++b) i) j=some d->∃u,C[i*r.wid+j]? =some u/\RA y.bare d u:=by
 intro i j d hi hd;have hp:ZhW d=true:=R.enc_plain _ _ _ (Zbd hd);by_cases hlt:i<a.length
 ·rw[ZE9 hlt] at hd;obtain⟨u,e1,e2⟩:=ho i j d hlt hd;exact⟨u,by rw[h1 _ (Zd1 hlt hd)];exact e1,e2.plain (x':=y.bare) hx hp⟩
 ·have hge:a.length<=i:=by omega
  rw[ZxQ hge] at hd;have hi':i-a.length<b.length:=by simp at hi;omega
  obtain⟨u,e1,e2⟩:=hn _ j d hi' hd;refine⟨u,?_,e2.plain (x':=y.bare) hx hp⟩;have:=h2 _ (Zd1 hi' hd);rw[<-e1,<-this];congr 1;have:a.length*r.wid+(i-a.length)*r.wid=i*r.wid:=by rw[<-Nat.add_mul];congr 1;omega
  omega
theorem ZI.drew_alloc (w:World) (o:Obj):ZI w (w.drew.alloc o):=⟨by simp,λk hk=>RowKit.Below.heap_alloc w.drew o k hk⟩
theorem ZI.drew (w:World):ZI w w.drew:=⟨Ye _,λ_ _=>rfl⟩
theorem ZdC {l:List r.den} {p cap:Nat} {full nn:Bool} (hcap:l.length<=cap) (hml:l.length<=maxLen) (hfull:full=true->cap=l.length)
  (hz:∀k u,C[k]? =some u->y.fz p k=some u) (hr:∀i j d,i<l.length->nth (elN r l i) j=some d->∃u,C[i*r.wid+j]? =some u/\RA y.bare d u):
  RA y (.lst r lit full nn l) (.slice (some ⟨p,0,none⟩) l.length cap):=by
 by_cases h0:l=[]
 ·subst h0;exact .lst0 _ _ _ _ _ _ _ _ rfl (λe=>hfull e) (λ_=>rfl) (λe=>by simp at e)
 ·refine .lst _ _ _ _ _ _ p 0 cap (λi j=>(C[i*r.wid+j]?).getD undef) h0 hfull hcap hml (λi j d hi hd=> ?_) (λi j d hi hd=> ?_)
  ·obtain⟨u,e1,_⟩:=hr i j d hi hd;rw[Yu,hz _ _ e1,e1];rfl
  ·obtain⟨u,e1,e2⟩:=hr i j d hi hd;rw[e1];exact e2
theorem ZNL {α:Type} {l:List α}:Zut l=true↔l=[]:=by cases l<;>simp[Zut]
theorem ZPe {q p:Sq r} (h:appC q p=some chk) (hc:chk≠some false) (hq:0<q.ub->q.l.length<q.ub):(q.l++p.l).length<=most:=by
 unfold appC at h;split at h
 ·rename_i hb;simp only[Yb,Yaf,Yy] at hb;have:=ZIz (p:=p) hq hb.1;omega
 ·have:=Zky h hc;simpa using this
variable {w:World} {t t':TypeId} {vy:Value}
theorem ZPS {x:Ctx} {m:Mem} (hm:MemR x m w) {elem:TypeId} (hu:P.underlying t=some (.slice elem)) {i:TypeInfo} (hw:r.wid=i.size) {y:A} (hy:RA x y vy) {p:Sq r} (hp:ZUP P r m t t' y=some p):
  ∃news,Src P i.size t' vy p.l.length news w/\∀i' j d,i'<p.l.length->nth (elN r p.l i') j=some d->∃u,news[i'*r.wid+j]? =some u/\RA x.bare d u:=by
 unfold ZUP at hp;split at hp
 ·rename_i hbt;simp only[Yt] at hbt;subst hbt;obtain⟨b,cap2,news,rfl,SY⟩:=ZrL hm hy hp;refine⟨news,?_,SY.hrow⟩;cases b with
  |none=>
   have h0:=SY.hnone rfl;have hn:news=[]:=Y9 (by rw[SY.hlen,h0];simp);rw[hn,h0];exact Src.ofNil w hu cap2
  |some bb=>exact Src.ofSlice w hu bb _ cap2 news (by rw[SY.hlen,hw]) (SY.hcell bb rfl) SY.one
 ·split at hp
  case h_2=>simp at hp
  rename_i b hu';split at hp
  case h_2=>simp at hp
  rename_i e he;simp only[oinj] at hp;subst hp;cases e;cases hy;have h1:i.size=1:=by rw[<-hw];rfl
  have hl:(strL b).length=b.size:=by simp[strL]
  refine⟨byteCells b,?_,λi' j d hi hd=> ?_⟩
  ·show Src P i.size t' (.string b) (strL b).length (byteCells b) w;rw[hl,h1];exact Src.ofString w hu' b
  ·have hi:i'<(strL b).length:=hi;have hd:nth [A.int false .u8 ((strL b).getD i' 0)] j=some d:=hd;cases j with
   |succ j=>simp[nth] at hd
   |zero=>
    simp only[nth,oinj] at hd;subst hd;have hi2:i'<b.data.toList.length:=by simpa [strL] using hi
    refine⟨.int .u8 (b.data.toList[i']).toNat,?_,?_⟩
    ·simp only[R.wid,Nat.mul_one,Nat.add_zero,byteCells,Yas,Yg hi2,Option.map_some]
    ·have e:(strL b).getD i' 0=((b.data.toList[i']).toNat:Int):=by simp only[strL,Yl,Yas,Yg hi2,Option.map_some,Option.getD_some]
     rw[e];refine .int _ _ _ _ ?_;generalize b.data.toList[i']=u;have:=u.toNat_lt;constructor
     ·show (0:Int)<=(u.toNat:Int);omega
     ·show (u.toNat:Int)<=255;omega
variable {ty e:TypeId} {m:Nat}
theorem ZCi (ht:P.underlying t=some (.slice e)) {i:TypeInfo} (hi:P.info? e=some i) (g n cap:Nat) (cur:Array Value) (hg:w.heap[g]? =some (.cells cur e (0,0)))
  {x:Value} (hs:Src P i.size t' x m news w) (hroom:n+m<=cap) (hfit:n*i.size+news.length<=cur.size):
  (Builtin.append_ #[t,t'] ty #[.slice (some ⟨g,0,none⟩) n cap,x]).run P w=.ok (.slice (some ⟨g,0,none⟩) (n+m) cap) (w.setRow g (cur.toList.take (n*i.size)++news++cur.toList.drop (n*i.size+news.length)).toArray):=by have hst:=run_storeCells_at P g (n*i.size) e news 0 cur w hg (by simpa using hfit) hs.one;simp only[Nat.add_zero] at hst;rcases hs.kind with ⟨e',hk⟩|hk<;>simp[Builtin.append_,run_underlying ht,run_underlying hk,sizeOf,typeInfo,hi,hs.len,hroom,hs.cells,Addr.add_lit,hst]
theorem Zge (ht:P.underlying t=some (.slice e)) {i:TypeInfo} {z:Value} (hi:P.info? e=some i) (hz:i.zero=some z) (hzs:z.cells.size=i.size) (hby:i.bytes<=65536)
  (a:Option Addr) (n cap:Nat) (olds:List Value) (hol:olds.length=n*i.size) (hoc:∀p,a=some p->∀j u,olds[j]? =some u->w.cell? (p.add j)=some u) (han:a=none->n=0/\cap=0)
  {x:Value} (hs:Src P i.size t' x m news w) (hgr:cap<n+m) (hbig:n+m<=most):
  ∃cap' zs,(Builtin.append_ #[t,t'] ty #[.slice a n cap,x]).run P w=.ok (.slice (some ⟨w.heap.size,0,none⟩) (n+m) cap') (w.drew.alloc (.cells (olds++news++zs).toArray e))/\
   n+m<=cap'/\cap'<=maxLen/\(olds++news++zs).length=cap'*i.size:=by
 have hml:n+m<=maxLen:=by simp only[maxLen,most] at*;omega
 have h63:n+m<=9223372036854775807:=by simp only[most] at*;omega
 have hbytes:(n+m)*i.bytes<=140737488355328:=by have:(n+m)*i.bytes<=1073741824*65536:=Nat.mul_le_mul hbig hby;omega
 have hold:(Builtin.firstCells i.size n (.slice a n cap)).run P w.drew=.ok olds.toArray w.drew:=by
  cases a with
  |none=>
   obtain⟨rfl,rfl⟩:=han rfl;have ho:olds=[]:=Y9 (by simpa using hol);rw[ho];exact run_firstCells_none w.drew i.size 0 0 0
  |some p=>exact run_firstCells_some w.drew i.size n p n cap olds hol (by simpa using hoc p rfl)
 have hr:=run_append_grow_src (P:=P) w t t' ty e i z ht hi hz a n cap olds hold x m news hs hgr (by omega) (growslice_fits hgr hbytes);refine⟨grownCap w (n+m) cap e,(Builtin.zeroCells z.cells (grownCap w (n+m) cap e-(n+m))).toList,?_,grownCap_ge _ _ _ _,grownCap_le_maxLen _ _ _ _ hml,?_⟩
 ·rw[hr];congr 3;apply YaC;simp
 ·have hge:=grownCap_ge w (n+m) cap e;simp only[Yd,Array.length_toList,size_zeroCells,hzs,hol,hs.newsLen,<-Nat.add_mul];congr 1;omega
set_option maxHeartbeats 1000000 in
theorem ZH5 {x:Ctx} {s:St} (hm:MK x s.mem w) {xa ya:A} {vx:Value} (hx:RA x xa vx) (hy:RA x ya vy) (ty:TypeId) {res:Res}
  (h:ZkT P s t t' xa ya=some res) (hc:res.chk≠some false):
  ∃v w' x',(Builtin.append_ #[t,t'] ty #[vx,vy]).run P w=.ok v w'/\RV x' res.v v/\MK x' res.m w'/\Ext x x'/\Step x w w':=by
 unfold ZkT at h;split at h
 case h_2=>simp at h
 rename_i elem hu;split at h
 ·simp at h
 rename_i r hel;obtain⟨i,z,hi,hz,hzs,hsz,hby,hw⟩:=ZhC hel;split at h
 case h_2=>simp at h
 rename_i q p hq hp;split at h
 ·simp at h
 rename_i chk hchk;obtain⟨news,HS,SYrow⟩:=ZPS (i:=i) hm.toR hu hw hy hp;have SYlen:news.length=p.l.length*r.wid:=by rw[hw];exact HS.newsLen
 have HS0:p.l=[]->Src P i.size t' vy 0 [] w:=λe=>by have hn:news=[]:=Y9 (by rw[SYlen,e];simp);have:=HS;rw[hn,e] at this;exact this
 split at h
 ·--a slice of the call's own
  rename_i hh ver;simp only[sqOf] at hq;split at h
  case h_2=>simp at h
  rename_i g hg;rw[hg] at hq;simp only at hq;split at h
  case h_2=>simp at h
  rename_i hT;simp only[Yt] at hT;simp only[oinj] at h;subst h;have hub:=ZyB (r:=r) hm.toR hx (q:=q) (by simp only[sqOf,hg];exact hq);have hubA:=ZIz (p:=p) hub;have hbig:(q.l++p.l).length<=most:=ZPe hchk hc hub;split at hq
  case h_2=>simp at hq
  rename_i e he;simp only[oinj] at hq;subst hq;obtain⟨si,hs,hok,rfl⟩:=Zf8 hm.toR hx hg;obtain⟨hg1,hg2⟩:=ZR hg;obtain⟨gr,gT,gl,gv,gf,gff,glit,gub⟩:=g;cases e;simp only at hT hg2;subst hT;subst hg2;obtain⟨a,cap,olds,hv,SX,hblk,hnil⟩:=ZrN hok;simp only[EqR.cast,EqR.slc] at*;have hver:si.ver=gv:=hok.ver;rw[hv];have hfin:∀(v':Value) (w':World) (s':SI),(Builtin.append_ #[t,t'] ty #[.slice a gl.length cap,vy]).run P w=.ok v' w'->v'=tipVal s'->s'.ver=gv+1->Step x w w'->
    (MK {x with S:=setN x.S hh s',fz:=x.fz} {s.mem with Sg:=setN s.mem.Sg hh {r:=gr,T:=gT,l:=gl++p.l,ver:=gv+1,fzn:=gf,ffz:=false,lit:=glit&&p.lit,ub:=ubA ⟨glit,false,gl,gub⟩ p}} w'/\Ext x {x with S:=setN x.S hh s',fz:=x.fz})->
    ∃v w' x',(Builtin.append_ #[t,t'] ty #[.slice a gl.length cap,vy]).run P w=.ok v w'/\RV x' (.w (.one (.tip hh (gv+1)))) v/\
     MK x' {s.mem with Sg:=setN s.mem.Sg hh {r:=gr,T:=gT,l:=gl++p.l,ver:=gv+1,fzn:=gf,ffz:=false,lit:=glit&&p.lit,ub:=ubA ⟨glit,false,gl,gub⟩ p}} w'/\Ext x x'/\Step x w w':=by intro v' w' s' hr hv' hs' hst ⟨m1,m2⟩;refine⟨v',w',_,hr,?_,m1,m2,hst⟩;refine .tip _ _ _ s' _ (ZE hs) (by omega) (λ_=>hv') ?_;rw[hv'];unfold tipVal;split<;>trivial
  by_cases h0:p.l=[]
  ·--nothing is appended
   have hl0:p.l.length=0:=by rw[h0];rfl
   refine hfin (tipVal si) w {si with ver:=gv+1} (by rw[hv];exact run_append_nothing w t t' ty gT i hu hi a _ cap SX.hcap vy (HS0 h0)) (by unfold tipVal;rfl) rfl (Step.refl x w) ?_;refine hm.setS hg1 hs ⟨by simp[hver],λe=>by simp at e;omega⟩ (Ye _) (λ_ _ _=>rfl) (λ_ _ _ e=>e) (λ_ _ _ _=>rfl) hm.fz (λp' c' e=>.inl ⟨c',e⟩) ?_;refine⟨rfl,by simp[hok.n,h0],hok.wd,hok.nil,λp' c' e=> ?_,hok.fzn,λe=>by simp at e,hubA⟩;obtain⟨C,c1,c2,c3,c4,c5,c6,c7,c8⟩:=hok.row p' c' e;refine⟨C,c1,c2,c3,c4,?_,c6,c7,c8⟩;simp only[h0,YG];exact λi' j' d hi' hd=>let ⟨u,e1,e2⟩:=c5 i' j' d hi' hd;⟨u,e1,e2.plain (λ_ _ _ e=>e) (R.enc_plain _ _ _ (Zbd hd))⟩
  ·have hpl:0<p.l.length:=List.length_pos_iff.2 h0;have hnl:news.length=p.l.length*i.size:=HS.newsLen;have hbig':gl.length+p.l.length<=most:=by simpa using hbig
   by_cases hroom:gl.length+p.l.length<=cap
   ·--in its place
    cases hbk:si.blk with
    |none=>obtain⟨_,hcap0⟩:=hnil hbk;omega
    |some pc=>
     obtain⟨p0,c0⟩:=pc;obtain⟨ha,hcc⟩:=hblk p0 c0 hbk;subst ha;subst hcc;obtain⟨C,c1,c2,c3,c4,c5,c6,c7,c8⟩:=hok.row p0 cap hbk;simp only at c2 c5 c6 c7 c8;have hn:si.n=gl.length:=hok.n;have hfit:gl.length*i.size+news.length<=C.toArray.size:=by
      have:gl.length*i.size+news.length<=cap*i.size:=by rw[hnl,<-Nat.add_mul];exact YS _ hroom
      simp only[Y7,c2,hw];exact this
     have hr:=ZCi (P:=P) (ty:=ty) hu hi p0 gl.length cap C.toArray c1 HS hroom hfit;have hown:=hm.sown hh si p0 cap hs hbk;have hrow:=setRow_heap w p0 C.toArray (C.take (gl.length*i.size)++news++C.drop (gl.length*i.size+news.length)).toArray gT (0,0) c1;refine hfin _ _ {si with n:=gl.length+p.l.length,ver:=gv+1} hr (by simp only[tipVal,hbk]) rfl ⟨rfl,rfl,rfl,by simp,λk hk=>setRow_other w p0 k _ (λe=>hk (e▸hown.1))⟩ ?_;have hCl:(C.take (gl.length*i.size)).length=gl.length*i.size:=by have:=hfit;simp only[Y7] at this;simp;omega
     have hC1:∀k,k<gl.length*gr.wid->(C.take (gl.length*i.size)++news++C.drop (gl.length*i.size+news.length))[k]? =C[k]? :=by intro k hk;rw[hw] at hk;rw[Yo,Yp (by rw[hCl];exact hk),YI,YX hk]
     refine hm.setS hg1 hs ⟨by simp[hver],λe=>by simp at e;omega⟩ (by simp) (λk hk hne=>setRow_other w p0 k _ (λe=>hne cap (e▸hbk))) (λ_ _ _ e=>e) (λ_ _ _ _=>rfl) ?_ (λp' c' e=>.inl ⟨c',e⟩) ?_
     ·intro b' o' v' e;by_cases hbe:b'=p0
      ·subst hbe;have ho:o'<si.fc:=by
        rcases Yae o' si.fc with h1|h1
        ·exact h1
        ·rw[c8 o' h1] at e;simp at e
       refine Eq.trans (Zaj hrow o') ?_;rw[hC1 o' (by rw[hn] at c6;omega),<-c7 o' ho];exact e
      ·rw[World.cell?_of_block (w:=w) (a:=⟨b',o',none⟩) (setRow_other w p0 b' _ hbe)];exact hm.fz b' o' v' e
     ·refine⟨rfl,by simp,hok.wd,λe=> ?_,λp' c' e=> ?_,hok.fzn,λe=>by simp at e,hubA⟩
      ·have e:si.blk=none:=e;rw[hbk] at e;simp at e
      ·have e:si.blk=some (p',c'):=e;rw[hbk] at e;simp only[oinj,pinj] at e;obtain⟨rfl,rfl⟩:=e;refine⟨_,hrow,?_,hroom,c4,?_,?_,λo ho=> ?_,c8⟩
       ·have:=hfit;simp only[Y7] at this;simp only[Yd,YO,hCl];rw[<-c2];omega
       ·have hlen:∀{k},k<gl.length+p.l.length->k<(gl++p.l).length:=by intro k hk;simpa using hk
        have:=ZrZ (y:={x with S:=setN x.S hh {si with n:=gl.length+p.l.length,ver:=gv+1},fz:=x.fz}) (C:=C.take (gl.length*i.size)++news++C.drop (gl.length*i.size+news.length)) (λ_ _ _ e=>e) (λi' j' d hi' hd=>c5 i' j' d (by rw[hn];exact hi') hd) SYrow hC1
         (λk hk=>by
          rw[hw] at hk|-;rw[Yo,YT (by rw[hCl];omega),hCl,Yp (by rw[hnl];omega)]
          congr 1;omega)
        exact λi' j' d hi' hd=>this i' j' d (hlen hi') hd
       ·show si.fc<=(gl.length+p.l.length)*gr.wid;rw[hn] at c6;exact YD c6 (YS _ (by omega))
       ·rw[hC1 o (by rw[hn] at c6;exact YaL ho c6)];exact c7 o ho
   ·--in a new block
    obtain⟨cap',zs,hr,k1,k2,k3⟩:=Zge (P:=P) (ty:=ty) hu hi hz hzs hby a gl.length cap olds (by rw[<-hw];exact SX.hlen) SX.hcell (λe=>by
     have:=SX.hnone e;refine⟨by rw[this];rfl,?_⟩;cases hbk:si.blk with
     |none=>exact (hnil hbk).2
     |some pc=>rw[(hblk pc.1 pc.2 hbk).1] at e;simp at e) HS (by omega) hbig'
    have hos:=ZI.drew_alloc w (.cells (olds++news++zs).toArray gT);refine hfin _ _ {blk:=some (w.heap.size,cap'),na:=none,n:=gl.length+p.l.length,w:=si.w,ver:=gv+1,fc:=0} hr (by simp only[tipVal]) rfl (hos.step hm rfl rfl rfl) ?_;refine hm.setS hg1 hs ⟨by simp[hver],λe=>by simp at e;omega⟩ hos.1 (λk hk _=>hos.2 k hk) (λ_ _ _ e=>e) (λ_ _ _ _=>rfl) (λb' o' v' e=>hos.cell (hm.fz b' o' v' e)) (λp' c' e=>by simp at e;exact .inr (by omega)) ?_;have hol:olds.length=gl.length*gr.wid:=SX.hlen;refine⟨rfl,by simp,hok.wd,λe=>by simp at e,λp' c' e=> ?_,λ_=>rfl,λe=>by simp at e,hubA⟩;simp only[oinj,pinj] at e;obtain⟨rfl,rfl⟩:=e;refine⟨olds++news++zs,heap_alloc_new w.drew _,by rw[hw];exact k3,k1,k2,?_,Yr _,λo ho=>by simp at ho,λo _=>hm.fz_new (Ye _) o⟩;have hlen:∀{k},k<gl.length+p.l.length->k<(gl++p.l).length:=by intro k hk;simpa using hk
    have:=ZrZ (y:={x with S:=setN x.S hh {blk:=some (w.heap.size,cap'),na:=none,n:=gl.length+p.l.length,w:=si.w,ver:=gv+1,fc:=0},fz:=x.fz}) (C:=olds++news++zs) (λ_ _ _ e=>e) SX.hrow SYrow
     (λk hk=>by rw[Yo,Yp (by omega)])
     (λk hk=>by
      rw[Yo,YT (by omega),Yp (by rw[SYlen];omega)]
      congr 1;omega)
    exact λi' j' d hi' hd=>this i' j' d (hlen hi') hd
 ·--another slice,which is full
  rename_i hnt;split at h
  case h_2=>simp at h
  rename_i hfull;obtain⟨a,cap,olds,rfl,SX⟩:=ZrL hm.toR hx hq;have hcap:cap=q.l.length:=SX.hfull hfull;have hbig:(q.l++p.l).length<=most:=by
   have:chk≠some false:=by split at h<;>(simp only[oinj,Zjg,ofSt] at h;subst h;exact hc)
   exact ZPe hchk this (ZyB hm.toR hx hq)
  have hubA:=ZIz (p:=p) (ZyB hm.toR hx hq);have hbig':q.l.length+p.l.length<=most:=by simpa using hbig
  have hol:olds.length=q.l.length*r.wid:=SX.hlen;have fresh:p.l≠[]->∃cap' zs,(Builtin.append_ #[t,t'] ty #[.slice a q.l.length cap,vy]).run P w=.ok (.slice (some ⟨w.heap.size,0,none⟩) (q.l.length+p.l.length) cap') (w.drew.alloc (.cells (olds++news++zs).toArray elem))/\
    q.l.length+p.l.length<=cap'/\cap'<=maxLen/\(olds++news++zs).length=cap'*r.wid/\
    ∀y,FzLe x y->∀i' j' d,i'<(q.l++p.l).length->nth (elN r (q.l++p.l) i') j'=some d->∃u,(olds++news++zs)[i'*r.wid+j']? =some u/\RA (Ctx.bare y) d u:=by
   intro h0;have hpl:0<p.l.length:=List.length_pos_iff.2 h0
   obtain⟨cap',zs,hr,k1,k2,k3⟩:=Zge (P:=P) (ty:=ty) hu hi hz hzs hby a q.l.length cap olds (by rw[<-hw];exact SX.hlen) SX.hcell (λe=>by
    have:=SX.hnone e
    exact⟨by rw[this];rfl,by rw[hcap,this];rfl⟩) HS (by omega) hbig'
   refine⟨cap',zs,hr,k1,k2,by rw[hw];exact k3,λy hy=> ?_⟩;exact ZrZ (y:=y) (C:=olds++news++zs) hy SX.hrow SYrow
     (λk hk=>by rw[Yo,Yp (by omega)])
     (λk hk=>by
      rw[Yo,YT (by omega),Yp (by rw[SYlen];omega)]
      congr 1;omega)
  have hsl:=hm.sl;split at h
  ·--a slice of the call's own from now on
   rename_i hflag;simp only[Zjg,oinj] at h;subst h;have tipOk:∀(s':SI) (v':Value),v'=tipVal s'->s'.ver=0->RV {x with S:=x.S++[s']} (.w (.one (.tip (len s.mem.Sg) 0))) v':=by intro s' v' hv' h0;refine .tip _ _ _ s' _ ?_ (Yr _) (λ_=>hv') (by rw[hv'];unfold tipVal;split<;>trivial);rw[Zad,<-hsl,Zi];simp
   by_cases h0:p.l=[]
   ·have hq0:q.l=[]:=by simp only[h0,Zut,Yh,Yau,Yx,Yb] at hflag;exact ZNL.1 hflag.2
    have hl0:p.l.length=0:=by rw[h0];rfl
    have hc0:cap=0:=by rw[hcap,hq0];rfl
    have hql:q.l.length=0:=by rw[hq0];rfl
    obtain⟨m1,m2⟩:=hm.addS (s:={blk:=none,na:=a,n:=0,w:=r.wid,ver:=0,fc:=0}) (g:={r:=r,T:=elem,l:=q.l++p.l,ver:=0,fzn:=false,ffz:=false,lit:=q.lit&&p.lit,ub:=ubA q p}) (ZI.refl w) (λp' c' e=>by simp at e)
     ⟨rfl,by simp[h0,hq0],rfl,λ_=>⟨rfl,rfl⟩,λp' c' e=>by simp at e,λ_=>rfl,λe=>by simp at e,hubA⟩
    exact⟨_,w,_,run_append_nothing w t t' ty elem i hu hi a _ cap SX.hcap vy (HS0 h0),tipOk _ _ (by simp[tipVal,hql,hc0]) rfl,m1,m2,Step.refl x w⟩
   ·obtain⟨cap',zs,hr,k1,k2,k3,k4⟩:=fresh h0;have hos:=ZI.drew_alloc w (.cells (olds++news++zs).toArray elem);obtain⟨m1,m2⟩:=hm.addS (s:={blk:=some (w.heap.size,cap'),na:=none,n:=q.l.length+p.l.length,w:=r.wid,ver:=0,fc:=0}) (g:={r:=r,T:=elem,l:=q.l++p.l,ver:=0,fzn:=false,ffz:=false,lit:=q.lit&&p.lit,ub:=ubA q p}) hos (λp' c' e=>by simp at e;omega)
     (by
      refine⟨rfl,by simp,rfl,λe=>by simp at e,λp' c' e=> ?_,λ_=>rfl,λe=>by simp at e,hubA⟩;simp only[oinj,pinj] at e;obtain⟨rfl,rfl⟩:=e;have hlen:∀{k},k<q.l.length+p.l.length->k<(q.l++p.l).length:=by intro k hk;simpa using hk
      exact⟨olds++news++zs,heap_alloc_new w.drew _,k3,k1,k2,λi' j' d hi' hd=>k4 _ (λ_ _ _ e=>e) i' j' d (hlen hi') hd,Yr _,λo ho=>by simp at ho,λo _=>hm.fz_new (Ye _) o⟩)
    exact⟨_,_,_,hr,tipOk _ _ (by simp[tipVal]) rfl,m1,m2,hos.step hm rfl rfl rfl⟩
  ·--nobody's
   simp only[ofSt,oinj] at h;subst h;by_cases h0:p.l=[]
   ·have hl0:p.l.length=0:=by rw[h0];rfl
    refine⟨_,w,x,run_append_nothing w t t' ty elem i hu hi a _ cap SX.hcap vy (HS0 h0),?_,hm,Ext.refl x,Step.refl x w⟩;show RA x (.lst r (q.lit&&p.lit) false false (q.l++p.l)) _;rw[h0,YG];unfold sqOf at hq;cases xa with
    |nilsl=>
     simp only[oinj] at hq;subst hq;exact RA.nil_lst hx
    |lst r' lit full nn l=>
     simp only at hq;split at hq
     ·rename_i e _;simp only[oinj] at hq;subst hq;cases e;exact RA.lst_weak hx (λe=>by simp at e) (λe=>by simp at e)
     ·simp at hq
    |tip h ver=>exact absurd rfl (hnt h ver)
    |_=>simp at hq
   ·obtain⟨cap',zs,hr,k1,k2,k3,k4⟩:=fresh h0;have hm':=hm.old (ZI.drew w);obtain⟨m1,m2⟩:=hm'.frzNew (olds++news++zs) elem;refine⟨_,_,_,hr,?_,m1,m2,(ZI.drew_alloc w _).step hm rfl rfl rfl⟩;have hle:=m2.fz;have:=ZdC (y:={x with fz:=λb o=>if b=w.drew.heap.size then (olds++news++zs)[o]? else x.fz b o}) (r:=r) (l:=q.l++p.l) (C:=olds++news++zs) (p:=w.heap.size) (cap:=cap') (lit:=q.lit&&p.lit) (full:=false) (nn:=false)
     (by simpa using k1) (by simp only[maxLen,most,Yd] at*;omega) (λe=>by simp at e) (λk u e=>(YX rfl).trans e) (λi' j' d hi' hd=>k4 _ (λb o v e=>hle b o v e) i' j' d hi' hd)
    rw[Yd] at this;exact this
end Go.S3
namespace Go.S3
section
variable {P:Program}
variable {w:World} {t:TypeId}
theorem ZhH {b:Bool} (h:aggT P t=some b):(isAgg t).run P w=.ok b w:=by
 unfold aggT at h;split at h
 ·rename_i d hd;simp only[oinj] at h;subst h;simp[isAgg,run_underlying hd]
 ·rename_i d n hd;simp only[oinj] at h;subst h;simp[isAgg,run_underlying hd]
 ·rename_i d hd h1 h2;simp only[oinj] at h;subst h;have hu:=run_underlying (P:=P) (w:=w) h2;cases d<;>first|(exact absurd h2 (by assumption))|(exact absurd h2 (by solve_by_elim))|simp[isAgg,hu]
 ·simp at h
variable {n:Nat}
theorem ZbT (h:Zj4 P t=some n):(sizeOf t).run P w=.ok n w:=by simp only[Zj4,YB] at h;obtain⟨i,h1,h2⟩:=h;simp[sizeOf,typeInfo,h1,h2]
variable {l:List A}
theorem Zeb {x:Ctx} (h:ZpK P t=some l):∃z:Value,(∀w,(zeroValue t).run P w=.ok z w)/\RL x l z.cells.toList:=by
 unfold ZpK at h;split at h
 ·rename_i z hz;rw[Yar] at hz h;obtain⟨i,h1,h2⟩:=hz;obtain⟨y,h3,h4⟩:=h;exact⟨z,λw=>by simp[zeroValue,typeInfo,h1,h2],W.cells_ok (ZqX x h3) h4⟩
 ·simp at h
variable {off:Nat} {y:W} {C:List Value}
theorem ZQG {x:Ctx} (h:ZpR P t l off=some y) (hl:RL x l C):
  ∃v,(∀w,(part t C.toArray off).run P w=.ok v w)/\RW x y v:=by
 unfold ZpR at h;split at h
 ·rename_i n hg hn;rw[YB] at h;obtain⟨r,h1,h2⟩:=h;subst h2;obtain⟨h3,h4⟩:=Zhf _ _ _ h1;rw[ZcZ] at h3 h4;refine⟨.agg ((C.drop off).take n).toArray,λw=>by simp[part,ZhH hg,ZbT hn],(C.drop off).take n,rfl,?_⟩;subst h3;exact (hl.drop off).take n
 ·rename_i n hg hn;rw[YB] at h;obtain⟨r,h1,h2⟩:=h;subst h2;obtain⟨v,h3,h4⟩:=hl.nth _ _ h1;exact⟨v,λw=>by simp[part,ZhH hg,h3],h4⟩
 ·simp at h
variable {m:Mem} {p:A} {v:Value}
theorem Zrk {x:Ctx} (h:MemR x m w) (hp:RA x p v) (hl:Zf4 m p=some l):
  ∃q o,v=.pointer (some ⟨q,o,none⟩)/\∀j a,nth l j=some a->∃u,w.cell? ⟨q,o+j,none⟩=some u/\RA x a u:=by
 cases p with
 |loc b o=>
  simp only[Zf4] at hl;cases hp with
  |loc _ _ _ q hq=>
   rw[YB] at hl;obtain⟨c,h1,h2⟩:=hl;subst h2;obtain⟨q',C,T,h0,h3,h4⟩:=h.box b c h1;have:q'=q:=by rw[hq] at h0;simpa using h0.symm
   subst this;refine⟨q',o,rfl,λj a ha=> ?_⟩;rw[ZcZ,Zi,YN,<-Zi] at ha;obtain⟨u,h5,h6⟩:=h4.nth _ _ ha;exact⟨u,by rw[Zaj h3];exact h5,h6⟩
 |fp l'=>
  simp only[Zf4,oinj] at hl;subst hl;cases hp with
  |fp _ _ q o c hf hr=>
   refine⟨q,o,rfl,λj a ha=>⟨c j,h.fz _ _ _ (hf j a ha),(hr j a ha).mono ⟨rfl,?_,?_,λ_ _ _ e=>e,λ_ _ _ e=>.inl e⟩⟩⟩
   ·intro b p e;simp[Ctx.bare,Zn] at e
   ·intro b p e;simp[Ctx.bare,Zn] at e
 |sp hh ver i o=>
  simp only[Zf4] at hl;split at hl
  ·rename_i g hg;simp only[oinj] at hl;subst hl;obtain⟨s,q,cap,hs,hok,hb,h0,hi,rfl⟩:=ZPV h hp hg;obtain⟨C,c1,c2,c3,c4,c5,c6,c7,c8⟩:=hok.row q cap hb;refine⟨q,_,rfl,λj a ha=> ?_⟩;rw[ZcZ,Zi,YN,<-Zi] at ha;obtain⟨u,e1,e2⟩:=c5 i.toNat (o+j) a (by rw[hok.n];exact hi) ha;refine⟨u,by rw[Zaj c1,Yat];exact e1,e2.plain (λ_ _ _ e=>e) (R.enc_plain _ _ _ (Zbd ha))⟩
  ·simp at hl
 |_=>simp[Zf4] at hl
theorem ZEO {x:Ctx} (h:MemR x m w) (hp:RA x p v) (hl:Zxm P m t p=some y):
  ∃u,(∀w',ZI w w'->(Instr.loadAt t v).run P w'=.ok u w')/\RW x y u:=by
 unfold Zxm at hl;split at hl
 ·rename_i l hc;obtain⟨q,o,rfl,hcell⟩:=Zrk h hp hc;unfold ZpR at hl;split at hl
  ·rename_i n hg hn;rw[YB] at hl;obtain⟨r,h1,h2⟩:=hl;subst h2;obtain⟨h3,h4⟩:=Zhf _ _ _ h1;simp only[Zdk] at h3 h4;have hex:∀j,j<n->∃u,w.cell? ⟨q,o+j,none⟩=some u/\∀a,nth l j=some a->RA x a u:=by
    intro j hj;have:∃a,nth l j=some a:=by rw[Zi];exact⟨_,Yg (by omega)⟩
    obtain⟨a,ha⟩:=this;obtain⟨u,h5,h6⟩:=hcell j a ha;exact⟨u,h5,λa' ha'=>by rw[ha] at ha';simp only[oinj] at ha';exact ha'▸h6⟩
   let f:Nat->Value:=λj=>(w.cell? ⟨q,o+j,none⟩).getD undef
   have hf:∀j,j<n->w.cell? ⟨q,o+j,none⟩=some (f j):=λj hj=>by obtain⟨u,h5,_⟩:=hex j hj;simp[f,h5]
   have hrun:=fun (w':World) (hw':ZI w w')=>run_loadCells (P:=P) w' ⟨q,o,none⟩ n f (λj hj=>by rw[Zd3];exact hw'.cell (hf j hj))
   refine⟨.agg ((List.range n).map f).toArray,λw' hw'=>by simp[Instr.loadAt,Instr.sureAddr,loadVar,ZhH hg,ZbT hn,hrun w' hw'],_,rfl,?_⟩;subst h3;refine RL.of_nth (by simp;omega) λj a ha=> ?_
   have hj:j<n:=by have:=ZZ ha;simp at this;omega
   refine⟨f j,by simp[hj],?_⟩;obtain⟨u,h5,h6⟩:=hex j hj;have:f j=u:=by simp[f,h5]
   rw[this];refine h6 a ?_;rw[Zi,YI,YX hj] at ha;rw[Zi];exact ha
  ·rename_i n hg hn;rw[YB] at hl;obtain⟨r,h1,h2⟩:=hl;subst h2;obtain⟨u,h3,h4⟩:=hcell 0 r h1;exact⟨u,λw' hw'=>by simp[Instr.loadAt,Instr.sureAddr,loadVar,ZhH hg,go_sem,show w'.cell? ⟨q,o,none⟩=some u from hw'.cell h3],h4⟩
  ·simp at hl
 ·simp at hl
def ZZs (P:Program) (a:Act) (o:Oper) (w:World) (v:Value) (w':World):Prop:=
 (execOp a.eval o).run P w=.ok (.value v) w'\/((execOp a.eval o).run P w=.ok .skip w'/\v=undef)
theorem Zld {f:Nat} {fd:Field} (h:ZuC P t f=some fd):∃fs,P.underlying t=some (.struct fs)/\fs[f]? =some fd:=by
 unfold ZuC at h;split at h
 ·exact⟨_,by assumption,h⟩
 ·simp at h
theorem ZRz {x:Ctx} (hm:MemR x m w) {r:A} (hp:RA x p v) (h:ZHu m p n=some r):∃q o:Nat,v=.pointer (some ⟨q,o,none⟩)/\RA x r (.pointer (some ⟨q,o+n,none⟩)):=by
 cases p with
 |loc b o=>
  simp only[ZHu,oinj] at h;subst h;cases hp with
  |loc _ b o q hq=>exact⟨q,o,rfl,.loc _ _ _ _ hq⟩
 |fp l=>
  simp only[ZHu,oinj] at h;subst h;cases hp with
  |fp _ _ q o c hf hr=>
   refine⟨q,o,rfl,.fp _ _ _ _ (λj=>c (n+j)) (λj a ha=> ?_) (λj a ha=> ?_)⟩
   ·rw[ZcZ,Zi,YN,<-Zi] at ha;rw[Yat];exact hf _ _ ha
   ·rw[ZcZ,Zi,YN,<-Zi] at ha;exact hr _ _ ha
 |sp hh ver i o=>
  simp only[ZHu] at h;split at h
  ·rename_i g hg;simp only[oinj] at h;subst h;obtain⟨s,q,cap,hs,hok,hb,h0,hi,rfl⟩:=ZPV hm hp hg;obtain⟨hg1,hg2⟩:=ZR hg;refine⟨q,_,rfl,.sp _ _ _ _ _ s _ hs (by rw[hok.ver,hg2];exact Ye _) (λ_=>⟨q,cap,hb,h0,by rw[hok.n];exact hi,?_⟩) trivial⟩;rw[hok.wd,Yat]
  ·simp at h
 |_=>simp[ZHu] at h
theorem ZOc (l:List Value):∀(k off:Nat) (C:List Value),off+k+l.length<=C.length->
  (l.zipIdx k).foldl (λcs p=>cs.setIfInBounds (off+p.2) p.1) C.toArray=(C.take (off+k)++l++C.drop (off+k+l.length)).toArray:=by
 induction l with
 |nil=>intro k off C _;simp
 |cons v l ih=>
  intro k off C hk;simp only[List.length_cons] at hk;simp only[List.zipIdx_cons,List.foldl_cons];rw[List.setIfInBounds_toArray,ih (k+1) off (C.set (off+k) v) (by simp;omega)];congr 1;have hlt:off+k<C.length:=by omega
  have e1:(C.set (off+k) v).take (off+(k+1))=C.take (off+k)++[v]:=by rw[<-Nat.add_assoc,List.take_succ_eq_append_getElem (by simpa using hlt)];simp[List.take_set_of_le]
  rw[e1,List.drop_set_of_lt (by omega)];simp[Yat,YaT 1]
theorem ZjC {x:Ctx} (pl:Nat->Option (Nat×Nat)):∀(ps:List (Nat×Option (List A))) (vs:List (Nat×Value)) (l r:List A) (C:List Value),
  ps.map (·.1)=vs.map (·.1)->(∀i c v,nth ps i=some c->nth vs i=some v->∀k,c.2=some k->RL x k v.2.cells.toList)->RL x l C->Zpk pl l ps=some r->
  ∃D:List Value,Instr.fill pl C.toArray vs=some D.toArray/\RL x r D
 |[],[],l,r,C,_,_,hl,h=>by simp only[Zpk,oinj] at h;subst h;exact⟨C,rfl,hl⟩
 |(i,k)::ps,(i',v)::vs,l,r,C,hi,hv,hl,h=>by
  simp only[YaZ,YaJ] at hi;obtain⟨rfl,hi⟩:=hi;simp only[Zpk] at h;split at h
  ·rename_i off size l' hpl;split at h
   ·simp at h
   ·rename_i hbeq;simp only[Yb,Yt,Yaf] at hbeq;split at h
    ·rename_i c hput;have hk:=hv 0 _ _ rfl rfl l' rfl;have hkl:=hk.length;have hll:=hl.length;rw[Zad] at hbeq;obtain⟨e1,e2⟩:=Zi0 hput;have hne:l'≠[]:=by rintro rfl;simp at hbeq;omega
     have hin:=e2 hne;obtain⟨D,h1,h2⟩:=ZjC pl ps vs c r (C.take off++v.cells.toList++C.drop (off+v.cells.toList.length)) hi (λj c v h1 h2=>hv (j+1) c v h1 h2)
      (by rw[e1,hkl];exact ((hl.take off).append hk).append (hl.drop _)) h
     refine⟨D,?_,h2⟩;rw[<-h1];have hsz:v.cells.size=size:=by rw[<-hbeq.1,hkl];simp
     have hfit:off+v.cells.size<=C.length:=by rw[hkl] at hin;simp at hin;omega
     simp only[Instr.fill,hpl];rw[Y3 (by simp;exact⟨hsz,hfit⟩)];have:=ZOc v.cells.toList 0 off C (by simpa using hfit);simp only[Nat.add_zero] at this;rw[<-this,<-Array.foldl_toList];simp
    ·simp at h
  ·simp at h
 |[],_::_,_,_,_,h,_,_,_=>by simp at h
 |_::_,[],_,_,_,h,_,_,_=>by simp at h
end
variable {P:Program}
theorem ZiI (n:Nat):∀(m:Nat) (l:List A) (rows:List (List A)),ZmL n m l=some rows->
  rows.length=m/\∀j y,nth rows j=some y->y=(l.drop (j*n)).take n/\y.length=n
 |0,l,rows,h=>by simp only[ZmL,oinj] at h;subst h;exact⟨rfl,λj y e=>by cases j<;>simp[nth] at e⟩
 |m+1,l,rows,h=>by
  simp only[ZmL] at h;split at h
  ·simp at h
  ·rename_i y hy;split at h
   ·rename_i r hr;simp only[oinj] at h;subst h;obtain⟨h1,h2⟩:=ZiI n m _ _ hr;obtain⟨h3,h4⟩:=Zhf _ _ _ hy;refine⟨by simp[h1],λj y' e=> ?_⟩;cases j with
    |zero=>simp only[nth,oinj] at e;subst e;simp[h3];omega
    |succ j=>
     simp only[nth] at e;obtain⟨h5,h6⟩:=h2 j y' e;refine⟨?_,h6⟩;rw[h5,ZcZ,List.drop_drop];congr 2;rw[Nat.succ_mul,YaT]
   ·simp at h
theorem ZsH {nb:Nat} {x:Ctx} (hx:∀c,Cut nb tip1 c x x) {i:Int}:∀(rows:List (List A)) (k:Nat) (z:List A) (R:List Value),
  ZF5 nb i k rows=some z->(k:Int)<=i->i<(k:Int)+rows.length->(∀y,nth rows (i-k).toNat=some y->RL x y R)->RL x z R
 |[],k,z,R,h,_,_,_=>by simp[ZF5] at h
 |[y],k,z,R,h,h1,h2,h3=>by
  simp only[ZF5,oinj] at h;subst h;simp at h2
  exact h3 _ (by
   have:(i-k).toNat=0:=by omega
   rw[this];rfl)
 |y::y'::r,k,z,R,h,h1,h2,h3=>by
  simp only[ZF5] at h;split at h
  ·rename_i z' hz;refine ZWA (hx _) h ?_;by_cases hi:i=k
   ·have:(i==(k:Int))=true:=by simp[hi]
    rw[this]
    exact h3 _ (by
     have:(i-k).toNat=0:=by omega
     rw[this];rfl)
   ·have:(i==(k:Int))=false:=by simp[hi]
    rw[this];refine ZsH hx (y'::r) (k+1) z' R hz (by omega) (by simp at h2|-;omega) λq hq=>h3 q ?_
    have e:(i-k).toNat=(i-((k+1:Nat):Int)).toNat+1:=by omega
    rw[e];exact hq
  ·simp at h
theorem ZQF {x:Ctx} {t:TypeId} {g:Bool} {n off:Nat} {y:List A} {C:List Value} (hg:aggT P t=some g) (hn:Zj4 P t=some n)
  (hl:RL x y ((C.drop off).take n)) (hlen:y.length=n):
  (g=true->∃v,(∀w,(part t C.toArray off).run P w=.ok v w)/\RW x (.agg y) v)/\(g=false->∀a,y=[a]->∃v,(∀w,(part t C.toArray off).run P w=.ok v w)/\RA x a v):=by
 refine⟨?_,?_⟩
 ·rintro rfl;exact⟨.agg ((C.drop off).take n).toArray,λw=>by simp[part,ZhH hg,ZbT hn],_,rfl,hl⟩
 ·rintro rfl a rfl;simp at hlen;subst hlen;obtain⟨v,h1,h2⟩:=hl.nth 0 a rfl;simp at h1;exact⟨v,λw=>by simp[part,ZhH hg,h1],h2⟩
theorem ZNT {x:Ctx} {s:St} {t:TypeId} {b:ByteArray} {i:A} {r:Res} {va vi:Value} (ha:RW x (.one (.str b)) va) (hi:RA x i vi)
  (h:Zxy P s t b i=some r) (hc:r.chk≠some false):r.m=s.mem/\r.bd=s.bd/\r.sd=s.sd/\∃v,(∀w,(Instr.index t va vi).run P w=.ok v w)/\RV x r.v v:=by
 unfold Zxy at h;have ha:RA x (.str b) va:=ha;cases ha;split at h
 case h_2=>simp at h
 rename_i lit k n hu;simp only[oinj] at h;subst h;obtain⟨rfl,_⟩:=ZcM hi;have hb:0<=n/\n<(b.size:Int):=by
  refine Decidable.byContradiction λe=>hc ?_
  simp only[oinj,Yan,Y5];by_cases e1:0<=n
  ·exact .inr λe2=>e ⟨e1,e2⟩
  ·exact .inl e1
 have hlt:n.toNat<b.size:=by omega
 have e1:Zda b n=((b[n.toNat]'hlt).toNat:Int):=by
  have hl:n.toNat<b.data.toList.length:=by simpa using hlt
  simp only[Zda,Yl,Yg hl,Option.getD_some];rfl
 refine⟨rfl,rfl,rfl,.int .u8 (b[n.toNat]'hlt).toNat,λw=> ?_,?_⟩
 ·rw[run_index_string w t b k n hu,dif_pos hb]
 ·show RA x (.int false .u8 (Zda b n)) _;rw[e1];generalize b[n.toNat]'hlt=u;have:=u.toNat_lt;exact .int _ _ _ _ ⟨by show (0:Int)<=(u.toNat:Int);omega,by show (u.toNat:Int)<=255;omega⟩
theorem ZNU {x:Ctx} {s:St} {t:TypeId} {l:List A} {i:A} {r:Res} {va vi:Value} (ha:RW x (.agg l) va) (hi:RA x i vi)
  (h:Zxz P s t l i=some r) (hc:r.chk≠some false):r.m=s.mem/\r.bd=s.bd/\r.sd=s.sd/\∃v,(∀w,(Instr.index t va vi).run P w=.ok v w)/\RV x r.v v:=by
 unfold Zxz at h;obtain⟨C,rfl,hC⟩:=ha;have hcut:∀c,Cut (len s.mem.Bx) tip1 c x x:=λc=>Cut.refl _ c x
 split at h
 ·rename_i m elem lit ik iv hu;obtain⟨rfl,hir⟩:=ZcM hi;split at h
  ·rename_i g n hg hn;split at h
   ·simp at h
   ·rename_i rows hrows;obtain⟨hlen,hrow⟩:=ZiI n m l rows hrows;have key:∀y:List A,0<=iv->iv<(m:Int)->RL x y ((C.drop (iv.toNat*n)).take n)->y.length=n->
      (g=true->∃v,(∀w,(Instr.index t (.agg C.toArray) (.int ik iv)).run P w=.ok v w)/\RW x (.agg y) v)/\
      (g=false->∀a,y=[a]->∃v,(∀w,(Instr.index t (.agg C.toArray) (.int ik iv)).run P w=.ok v w)/\RA x a v):=by
     intro y h0 h1 hy hyl;have hr:∀v,(∀w,(part elem C.toArray (iv.toNat*n)).run P w=.ok v w)->∀w,(Instr.index t (.agg C.toArray) (.int ik iv)).run P w=.ok v w:=by intro v hv w;simp[Instr.index,asIntOf,run_underlying hu,h0,h1,ZbT hn,hv w]
     obtain⟨p1,p2⟩:=ZQF (P:=P) (off:=iv.toNat*n) hg hn hy hyl;exact⟨λe=>let ⟨v,q1,q2⟩:=p1 e;⟨v,hr v q1,q2⟩,λe a ea=>let ⟨v,q1,q2⟩:=p2 e a ea;⟨v,hr v q1,q2⟩⟩
    have rowRL:∀y,nth rows iv.toNat=some y->RL x y ((C.drop (iv.toNat*n)).take n)/\y.length=n:=by intro y hy;obtain⟨e1,e2⟩:=hrow _ _ hy;exact⟨e1▸(hC.drop _).take _,e2⟩
    split at h
    ·split at h
     ·simp at h
     ·rename_i hb;simp only[Yf] at hb;split at h
      ·simp at h
      ·rename_i y hy;obtain⟨q1,q2⟩:=rowRL y hy;obtain⟨k1,k2⟩:=key y hb.1 hb.2 q1 q2;split at h
       ·simp only[valR,oinj] at h;subst h;exact⟨rfl,rfl,rfl,k1 rfl⟩
       ·simp only[valR,oinj] at h;subst h;exact⟨rfl,rfl,rfl,k2 rfl _ rfl⟩
       ·simp at h
    ·split at h
     ·simp at h
     ·rename_i y hy;have hb:∀{b:Bool},some b≠some false->b=true:=by intro b;cases b<;>simp
      split at h
      ·simp only[oinj] at h;subst h;have hb':=hb hc;simp only[Yf] at hb';have hex:∃y',nth rows iv.toNat=some y':=by rw[Zi];exact⟨_,Yg (by omega)⟩
       obtain⟨y',hy'⟩:=hex;obtain⟨q1,q2⟩:=rowRL y' hy'
       have hz:=ZsH hcut rows 0 y _ hy (by simpa using hb'.1) (by simp[hlen,hb'.2]) (λq hq=>by simp only[Int.natCast_zero,Int.sub_zero] at hq;exact (rowRL q hq).1)
       have hzl:y.length=n:=by rw[hz.length,<-q1.length,q2]
       exact⟨rfl,rfl,rfl,(key y hb'.1 hb'.2 hz hzl).1 rfl⟩
      ·simp only[oinj] at h;subst h;have hb':=hb hc;simp only[Yf] at hb';have hex:∃y',nth rows iv.toNat=some y':=by rw[Zi];exact⟨_,Yg (by omega)⟩
       obtain⟨y',hy'⟩:=hex;obtain⟨q1,q2⟩:=rowRL y' hy'
       have hz:=ZsH hcut rows 0 _ _ hy (by simpa using hb'.1) (by simp[hlen,hb'.2]) (λq hq=>by simp only[Int.natCast_zero,Int.sub_zero] at hq;exact (rowRL q hq).1)
       have hzl:=hz.length;rw[<-q1.length,q2] at hzl;exact⟨rfl,rfl,rfl,(key _ hb'.1 hb'.2 hz hzl).2 rfl _ rfl⟩
      ·simp at h
  ·simp at h
 ·simp at h
theorem RWs.nth {x:Ctx}:∀{l:List W} {vs:List Value},RWs x l vs->∀(j:Nat) (a:W),nth l j=some a->∃v,vs[j]? =some v/\RW x a v
 |[],[],_,j,a,e=>by simp[S3.nth] at e
 |b::l,v::r,h,0,a,e=>by simp[S3.nth] at e;subst e;exact⟨v,by simp,h.1⟩
 |b::l,v::r,h,j+1,a,e=>by simp only[S3.nth] at e;simpa using RWs.nth h.2 j a e
 |[],_::_,h,_,_,_=>h.elim
 |_::_,[],h,_,_,_=>h.elim
theorem Zfo (s:St):∀l:List (Nat×Operand),(Zem s l).map (·.1)=l.map (·.1)
 |[]=>rfl
 |(i,x)::l=>by simp[Zem,Zfo s l]
theorem ZgL {x:Ctx} {s:St} {a:Act} (hf:RF x s.Sl a.tmps):∀(l:List (Nat×Operand)) (i:Nat) (c:Nat×Option (List A)) (v:Nat×Value),nth (Zem s l) i=some c->
  nth (l.map λp=>(p.1,a.eval p.2)) i=some v->∀k,c.2=some k->RL x k v.2.cells.toList
 |[],i,c,v,h,_=>by simp[Zem,nth] at h
 |(j,y)::l,0,c,v,h,h'=>by simp only[Zem,nth,oinj] at h;simp only[YaZ,nth,oinj] at h';subst h;subst h';intro k hk;exact Zua hf hk
 |(j,y)::l,i+1,c,v,h,h'=>by simp only[Zem,nth] at h;simp only[YaZ,nth] at h';exact ZgL hf l i c v h h'
theorem Zql {w:World}:∀(l:List Field) (r:List (Nat×Nat)),ZvF P l=some r->
  (l.mapM (λf=>Prod.mk f.offset<$>sizeOf f.type)).run P w=.ok r w
 |[],r,h=>by simp only[ZvF,oinj] at h;subst h;simp
 |f::l,r,h=>by
  simp only[ZvF] at h;split at h
  ·rename_i n r' hn hr;simp only[oinj] at h;subst h;have ih:=Zql (w:=w) l r' hr;rw[List.mapM_cons];simp only[Sem.run_bind,Sem.run_map,ZbT hn,Result.andThen_ok,ih,Sem.run_pure]
  ·simp at h
theorem ZSx {x:Ctx} {s:St} {a:Act} (hf:RF x s.Sl a.tmps) {t:TypeId} {parts:Array (Nat×Operand)} {z l:List A} {pl:Nat->Option (Nat×Nat)}
  (hz:ZpK P t=some z) (hpl:Zsv P t=some pl) (hfill:Zpk pl z (Zem s parts.toList)=some l):
  ∃v,(∀w,(Instr.build t (parts.map λp=>(p.1,a.eval p.2))).run P w=.ok v w)/\RW x (.agg l) v:=by
 obtain⟨zv,hzr,hzl⟩:=Zeb (P:=P) (x:=x) hz;have hfst:=Zfo s parts.toList;have hn:=ZgL hf parts.toList;unfold Zsv at hpl;split at hpl
 ·rename_i fs hu;split at hpl
  ·rename_i L hL;simp only[oinj] at hpl;subst hpl;obtain⟨D,h1,h2⟩:=ZjC (x:=x) (nth L) _ (parts.toList.map λp=>(p.1,a.eval p.2)) z l zv.cells.toList (by rw[hfst];simp[Function.comp_def]) hn hzl hfill;have hrun:=λw=>Zql (P:=P) (w:=w) fs.toList L hL
   have hpl:nth L=λi=>L.toArray[i]? :=by funext i;rw[Zi];simp
   rw[hpl] at h1;refine⟨.agg D.toArray,λw=> ?_,D,rfl,h2⟩;simp at h1;simp[Instr.build,hzr,run_underlying hu,Array.mapM_eq_mapM_toList,hrun,h1]
  ·simp at hpl
 ·rename_i m elem hu;split at hpl
  ·rename_i n hn';simp only[oinj] at hpl;subst hpl;obtain⟨D,h1,h2⟩:=ZjC (x:=x) (λi=>some (i*n,n)) _ (parts.toList.map λp=>(p.1,a.eval p.2)) z l zv.cells.toList (by rw[hfst];simp[Function.comp_def]) hn hzl hfill;refine⟨.agg D.toArray,λw=> ?_,D,rfl,h2⟩;simp at h1;simp[Instr.build,hzr,run_underlying hu,ZbT hn',h1]
  ·simp at hpl
 ·simp at hpl
end Go.S3
namespace Go.S3
inductive RLit:A->Lit->Prop
 |bool (f b:Bool):RLit (.bool f b) (.bool b)
 |int (f:Bool) (k:IntKind) (n:Int):RLit (.int f k n) (.int k n)
def ZkU:List A->List Lit->Prop
 |[],[]=>True
 |a::l,b::r=>RLit a b/\ZkU l r
 |_,_=>False
theorem ZkU.append:∀{l l':List A} {r r':List Lit},ZkU l r->ZkU l' r'->ZkU (l++l') (r++r')
 |[],_,[],_,_,h=>h
 |_::_,_,_::_,_,h,h'=>⟨h.1,ZkU.append h.2 h'⟩
 |[],_,_::_,_,h,_=>h.elim
 |_::_,_,[],_,h,_=>h.elim
theorem ZOm:∀{l r:List A} {a b:List Lit} {e:Bool},eqL l r=some e->ZkU l a->ZkU r b->(e=true↔a=b)
 |[],[],a,b,e,h,ha,hb=>by
  simp only[eqL,oinj] at h;subst h;cases a with
  |nil=>cases b with
   |nil=>simp
   |cons _ _=>exact hb.elim
  |cons _ _=>exact ha.elim
 |x::l,y::r,a,b,e,h,ha,hb=>by
  cases a with
  |nil=>exact ha.elim
  |cons p a=>
   cases b with
   |nil=>exact hb.elim
   |cons q b=>
    simp only[eqL] at h;split at h
    ·rename_i e' he;split at h
     ·rename_i hk;have:=ZdW hk;subst this;simp only[oinj] at h;subst h;have ih:=ZOm he ha.2 hb.2;cases ha.1;cases hb.1;simp[ih]
     ·simp at h
    ·rename_i e' he;simp only[oinj] at h;subst h;have ih:=ZOm he ha.2 hb.2;cases ha.1;cases hb.1;simp[ih]
    ·simp at h
 |[],_::_,_,_,_,h,_,_=>by simp[eqL] at h
 |_::_,[],_,_,_,h,_,_=>by simp[eqL] at h
variable {P:Program} {x:Ctx}
theorem Zq5 {d:Nat} (ih:∀(t:TypeId) (l k:List A) (C:List Value),klT P d t l=some k->RL x l C->∃L,P.keyLits d t C=some L/\ZkU k L) {l:List A} {C:List Value} (hl:RL x l C):
  ∀(fs:List Field) (k:List A),Zo1 (klT P d) P.cellsOf l fs=some k->∃Ls,(fs.mapM λf=>P.keyLits d f.type ((C.drop f.offset).take (P.cellsOf f.type)))=some Ls/\ZkU k Ls.flatten
 |[],k,h=>by simp only[Zo1,oinj] at h;subst h;exact⟨[],by simp,Tv⟩
 |f::fs,k,h=>by
  simp only[Zo1] at h;split at h
  ·rename_i a b ha hb;simp only[oinj] at h;subst h;obtain⟨Ls,h1,h2⟩:=Zq5 ih hl fs b hb;rw[ZdE,ZcZ] at ha;obtain⟨L,h3,h4⟩:=ih _ _ _ ((C.drop f.offset).take (P.cellsOf f.type)) ha ((hl.drop _).take _);exact⟨L::Ls,by simp[List.mapM_cons,h3,h1],by simpa using h4.append h2⟩
  ·simp at h
theorem Zxt {d:Nat} {e:TypeId} (ih:∀(l k:List A) (C:List Value),klT P d e l=some k->RL x l C->∃L,P.keyLits d e C=some L/\ZkU k L) {l:List A} {C:List Value} (hl:RL x l C):
  ∀(is:List Nat) (k:List A),Zxu (klT P d e) (P.cellsOf e) l is=some k->∃Ls,(is.mapM λi=>P.keyLits d e ((C.drop (i*P.cellsOf e)).take (P.cellsOf e)))=some Ls/\ZkU k Ls.flatten
 |[],k,h=>by simp only[Zxu,oinj] at h;subst h;exact⟨[],by simp,Tv⟩
 |f::fs,k,h=>by
  simp only[Zxu] at h;split at h
  ·rename_i a b ha hb;simp only[oinj] at h;subst h;obtain⟨Ls,h1,h2⟩:=Zxt ih hl fs b hb;rw[ZdE,ZcZ] at ha;obtain⟨L,h3,h4⟩:=ih _ _ ((C.drop (f*P.cellsOf e)).take (P.cellsOf e)) ha ((hl.drop _).take _);exact⟨L::Ls,by simp[List.mapM_cons,h3,h1],by simpa using h4.append h2⟩
  ·simp at h
theorem ZET:∀(d:Nat) (t:TypeId) (l k:List A) (C:List Value),klT P d t l=some k->RL x l C->∃L,P.keyLits d t C=some L/\ZkU k L
 |0,_,_,_,_,h,_=>by simp[klT] at h
 |d+1,t,l,k,C,h,hl=>by
  unfold klT at h;unfold Program.keyLits;split at h
  ·rename_i hu;split at h
   ·rename_i f b;simp only[oinj] at h;subst h
    match C,hl with
    |[v],hl=>
     have:=Zc0 hl.1;subst this;exact⟨[.bool b],by simp[hu],.bool _ _,Tv⟩
   ·simp at h
  ·rename_i q hu;split at h
   ·rename_i f q' n;split at h
    ·rename_i hq;have:=ZdW hq;subst this;simp only[oinj] at h;subst h
     match C,hl with
     |[v],hl=>
      obtain⟨e1,e2⟩:=ZcM hl.1;subst e1;have hwf:(Lit.int q' n).wf=true:=by simp only[Lit.wf,Yb,Yf];exact e2
      exact⟨[.int q' n],by simp[hu,hwf],.int _ _ _,Tv⟩
    ·simp at h
   ·simp at h
  ·rename_i n e hu;split at h
   ·rename_i hlen;simp only[Yt,Zad] at hlen;obtain⟨Ls,h1,h2⟩:=Zxt (λl k C h hl=>ZET d e l k C h hl) hl _ _ h;refine⟨Ls.flatten,?_,h2⟩;simp only[hu];rw[YX (by rw[<-hl.length];exact hlen),h1];rfl
   ·simp at h
  ·rename_i fs hu;split at h
   ·rename_i hlen;simp only[Yb,Yt,Zad] at hlen;obtain⟨Ls,h1,h2⟩:=Zq5 (λt l k C h hl=>ZET d t l k C h hl) hl _ _ h;refine⟨Ls.flatten,?_,h2⟩;simp only[hu];rw[YX ⟨by rw[<-hl.length];exact hlen.1,hlen.2⟩,h1];rfl
   ·simp at h
  ·simp at h
theorem ZOl {w:World} {t:TypeId} {l r:List A} {e:Bool} {C D:List Value} (h:eqT P t l r=some e) (hl:RL x l C) (hr:RL x r D):
  (Op.equal t (.agg C.toArray) (.agg D.toArray)).run P w=.ok e w/\∀op ox oy,(eqGuard op t ox oy (.agg C.toArray) (.agg D.toArray)).run P w=.ok () w:=by
 unfold eqT at h;split at h
 ·rename_i hk;simp only[Yb,YJ,YaA] at hk;obtain⟨⟨hk,hg⟩,hag⟩:=hk;refine⟨?_,λop ox oy=> ?_⟩
  ·split at h
   ·rename_i a b ha hb;obtain⟨La,h1,h2⟩:=ZET (x:=x) 12 t l a C ha hl;obtain⟨Lb,h3,h4⟩:=ZET (x:=x) 12 t r b D hb hr;have hform:∀(l k:List A) (C:List Value),klT P 12 t l=some k->RL x l C->(Value.agg C.toArray).formed P t=true:=by
     intro l k C hk hl;unfold klT at hk;unfold aggT at hag;split at hk
     ·rename_i hu;simp[hu] at hag
     ·rename_i hu;simp[hu] at hag
     ·rename_i hu;split at hk
      ·rename_i hlen;simp only[Yt,Zad] at hlen;simp[Value.formed,hu,<-hl.length,hlen]
      ·simp at hk
     ·rename_i hu;split at hk
      ·rename_i hlen;simp only[Yb,Yt,Zad] at hlen;simp[Value.formed,hu,<-hl.length,hlen.1]
      ·simp at hk
     ·simp at hk
    obtain⟨rr,q1,q2⟩:=run_equalIn_deep (P:=P) 9988 12 t hk w 12 12 (.agg C.toArray) (.agg D.toArray) La Lb (hform _ _ _ ha hl) (hform _ _ _ hb hr) (by simpa [Value.cells] using h1) (by simpa [Value.cells] using h3);have he:=ZOm h h2 h4;have:rr=e:=by cases rr<;>cases e<;>simp_all
    subst this;exact q1
   ·simp at h
  ·cases op<;>simp[eqGuard,hg]
 ·simp at h
end Go.S3
namespace Go.S3
variable {P:Program}
variable {w:World} {v:Value}
theorem Zq9 {x:Ctx} {m:Mem} (hm:MemR x m w) {h ver:Nat} (hv:RA x (.tip h ver) v) {g:Stg} (hg:ZaY m h ver=some g) (hf:g.ffz=true):RA x (.lst g.r g.lit false false g.l) v:=by
 obtain⟨s,hs,hok,rfl⟩:=Zf8 hm hv hg;cases hb:s.blk with
 |none=>
  have hl:g.l=[]:=Y9 (by rw[<-hok.n];exact (hok.nil hb).1);rw[ZfG hb];exact .lst0 _ _ _ _ _ _ _ _ hl (λe=>by simp at e) (λe=>by simp at e) (λ_=>rfl)
 |some pc=>
  obtain⟨p,cap⟩:=pc;obtain⟨C,c1,c2,c3,c4,c5,c6,c7,c8⟩:=hok.row p cap hb;have hfc:=hok.ffz hf;rw[Zfa hb,show Value.slice (some ⟨p,0,none⟩) s.n cap=.slice (some ⟨p,0,none⟩) g.l.length cap by rw[hok.n]];have key:∀i j d,i<g.l.length->nth (elN g.r g.l i) j=some d->∃u,(C.take (s.n*g.r.wid))[i*g.r.wid+j]? =some u/\RA x.bare d u:=by intro i j d hi hd;obtain⟨u,e1,e2⟩:=c5 i j d (by rw[hok.n];exact hi) hd;exact⟨u,by rw[YI,YX (by rw[hok.n];exact Zd1 hi hd)];exact e1,e2⟩
  refine ZdC (C:=C.take (s.n*g.r.wid)) (by rw[<-hok.n];exact c3) (by rw[<-hok.n];omega) (λe=>by simp at e) (λk u e=> ?_) key;rw[YI] at e;split at e
  ·rename_i hk;rw[c7 k (by rw[hfc];exact hk)];exact e
  ·simp at e
variable {s s':St} {a a':A}
theorem ZkF {x:Ctx} (hm:MemR x s.mem w) (hf:Zdh s.mem a=true) (h:Zau s a=some (a',s')):s'=s/\∀v,RA x a v->RA x a' v:=by
 cases a with
 |tip hh ver=>
  simp only[Zdh] at hf;simp only[Zau] at h;split at hf
  ·rename_i g hg;rw[hg] at h;simp only[hf,oinj,pinj] at h;obtain⟨rfl,rfl⟩:=h;exact⟨rfl,λv hv=>Zq9 hm hv hg hf⟩
  ·simp at hf
 |sp _ _ _ _=>simp[Zdh] at hf
 |_=>simp only[Zau,oinj,pinj] at h;obtain⟨rfl,rfl⟩:=h;exact⟨rfl,λv hv=>hv⟩
structure SameSl (s s':St):Prop where
 sl:s'.Sl=s.Sl
 d:s'.dirty=s.dirty
 bd:s'.bd=s.bd
 bx:s'.mem.Bx=s.mem.Bx
theorem SameSl.refl (s:St):SameSl s s:=⟨rfl,rfl,rfl,rfl⟩
theorem SameSl.trans {a b c:St} (h:SameSl a b) (k:SameSl b c):SameSl a c:=⟨k.sl.trans h.sl,k.d.trans h.d,k.bd.trans h.bd,k.bx.trans h.bx⟩
theorem ZkI {x:Ctx} (hm:MK x s.mem w) (hv:RA x a v) (h:Zau s a=some (a',s')):
  ∃x',MK x' s'.mem w/\Ext x x'/\RA x' a' v/\SameSl s s':=by
 cases a with
 |tip hh ver=>
  simp only[Zau] at h;split at h
  ·rename_i g hg;split at h
   ·rename_i hf;simp only[oinj,pinj] at h;obtain⟨rfl,rfl⟩:=h;exact⟨x,hm,Ext.refl x,Zq9 hm.toR hv hg hf,SameSl.refl s⟩
   ·simp only[oinj,pinj] at h;obtain⟨rfl,rfl⟩:=h;obtain⟨si,hs,hok,rfl⟩:=Zf8 hm.toR hv hg;obtain⟨x',h1,h2,h3⟩:=hm.freeze (ZR hg).1 hs;exact⟨x',h1,h2,h3 _,⟨rfl,rfl,rfl,rfl⟩⟩
  ·simp at h
 |sp _ _ _ _=>simp[Zau] at h
 |_=>simp only[Zau,oinj,pinj] at h;obtain⟨rfl,rfl⟩:=h;exact⟨x,hm,Ext.refl x,hv,SameSl.refl s⟩
theorem ZkG {x:Ctx} {w:World}:∀{l l':List A} {s s':St} {vs:List Value},MK x s.mem w->RL x l vs->Zat s l=some (l',s')->
  ∃x',MK x' s'.mem w/\Ext x x'/\RL x' l' vs/\SameSl s s'
 |[],l',s,s',vs,hm,hv,h=>by simp only[Zat,oinj,pinj] at h;obtain⟨rfl,rfl⟩:=h;exact⟨x,hm,Ext.refl x,hv,SameSl.refl s⟩
 |a::l,l',s,s',v::vs,hm,hv,h=>by
  simp only[Zat] at h;split at h
  ·rename_i b s1 h1;split at h
   ·rename_i r s2 h2;simp only[oinj,pinj] at h;obtain⟨rfl,rfl⟩:=h;obtain⟨x1,m1,e1,r1,k1⟩:=ZkI hm hv.1 h1;obtain⟨x2,m2,e2,r2,k2⟩:=ZkG m1 (hv.2.mono e1) h2;exact⟨x2,m2,e1.trans e2,⟨r1.mono e2,r2⟩,k1.trans k2⟩
   ·simp at h
  ·simp at h
 |_::_,_,_,_,[],_,hv,_=>hv.elim
theorem Zhz {x:Ctx} {y y':W} (hm:MK x s.mem w) (hv:RW x y v) (h:ZaF s y=some (y',s')):∃x',MK x' s'.mem w/\Ext x x'/\RW x' y' v/\SameSl s s':=by
 cases y with
 |one a=>
  simp only[ZaF] at h;split at h
  ·rename_i b s1 h1;simp only[oinj,pinj] at h;obtain⟨rfl,rfl⟩:=h;exact ZkI hm hv h1
  ·simp at h
 |agg l=>
  simp only[ZaF] at h;split at h
  ·rename_i b s1 h1;simp only[oinj,pinj] at h;obtain⟨rfl,rfl⟩:=h;obtain⟨C,rfl,hC⟩:=hv;obtain⟨x',m1,e1,r1,k1⟩:=ZkG hm hC h1;exact⟨x',m1,e1,⟨C,rfl,r1⟩,k1⟩
  ·simp at h
 |junk=>
  simp only[ZaF,oinj,pinj] at h;obtain⟨rfl,rfl⟩:=h;exact⟨x,hm,Ext.refl x,hv,SameSl.refl s⟩
variable {y y':V}
theorem ZHN {x:Ctx} (hm:MK x s.mem w) (hv:RV x y v) (h:Zbe s y=some (y',s')):∃x',MK x' s'.mem w/\Ext x x'/\RV x' y' v/\SameSl s s':=by
 cases y with
 |w a=>
  simp only[Zbe] at h;split at h
  ·rename_i b s1 h1;simp only[oinj,pinj] at h;obtain⟨rfl,rfl⟩:=h;exact Zhz hm hv h1
  ·simp at h
 |tup l=>
  simp only[Zbe,oinj,pinj] at h;obtain⟨rfl,rfl⟩:=h;exact⟨x,hm,Ext.refl x,hv,SameSl.refl s⟩
theorem ZfZ {x:Ctx} {w:World}:∀{l l':List V} {s s':St} {vs:List Value},MK x s.mem w->RVs x l vs->Zac s l=some (l',s')->
  ∃x',MK x' s'.mem w/\Ext x x'/\RVs x' l' vs/\SameSl s s'
 |[],l',s,s',vs,hm,hv,h=>by simp only[Zac,oinj,pinj] at h;obtain⟨rfl,rfl⟩:=h;exact⟨x,hm,Ext.refl x,hv,SameSl.refl s⟩
 |a::l,l',s,s',v::vs,hm,hv,h=>by
  simp only[Zac] at h;split at h
  ·rename_i b s1 h1;split at h
   ·rename_i r s2 h2;simp only[oinj,pinj] at h;obtain⟨rfl,rfl⟩:=h;obtain⟨x1,m1,e1,r1,k1⟩:=ZHN hm hv.1 h1;obtain⟨x2,m2,e2,r2,k2⟩:=ZfZ m1 (hv.2.mono e1) h2;exact⟨x2,m2,e1.trans e2,⟨r1.mono e2,r2⟩,k1.trans k2⟩
   ·simp at h
  ·simp at h
 |_::_,_,_,_,[],_,hv,_=>hv.elim
def PsOk (x:Ctx) (ps:List (Nat×Option (List A))) (vs:List (Nat×Value)):Prop:=∀i c v,nth ps i=some c->nth vs i=some v->∀k,c.2=some k->RL x k v.2.cells.toList
theorem PsOk.mono {x x':Ctx} (e:Ext x x') {ps:List (Nat×Option (List A))} {vs:List (Nat×Value)} (h:PsOk x ps vs):PsOk x' ps vs:=λi c v h1 h2 k h3=>(h i c v h1 h2 k h3).mono e
theorem ZkH {x:Ctx} {w:World}:∀{ps ps':List (Nat×Option (List A))} {s s':St} {vs:List (Nat×Value)},ps.length=vs.length->MK x s.mem w->PsOk x ps vs->ZbD s ps=some (ps',s')->
  ∃x',MK x' s'.mem w/\Ext x x'/\PsOk x' ps' vs/\ps'.map (·.1)=ps.map (·.1)/\SameSl s s'
 |[],ps',s,s',vs,_,hm,hv,h=>by simp only[ZbD,oinj,pinj] at h;obtain⟨rfl,rfl⟩:=h;exact⟨x,hm,Ext.refl x,hv,rfl,SameSl.refl s⟩
 |(i,some l)::r,ps',s,s',v::vs,hl,hm,hv,h=>by
  simp only[ZbD] at h;split at h
  ·rename_i b s1 h1;split at h
   ·rename_i r' s2 h2;simp only[oinj,pinj] at h;obtain⟨rfl,rfl⟩:=h;obtain⟨x1,m1,e1,r1,k1⟩:=ZkG hm (hv 0 _ _ rfl rfl l rfl) h1;have hv':PsOk x1 r vs:=λj c u g1 g2 k g3=>(hv (j+1) c u g1 g2 k g3).mono e1
    obtain⟨x2,m2,e2,r2,q2,k2⟩:=ZkH (by simpa using hl) m1 hv' h2;refine⟨x2,m2,e1.trans e2,λj c u g1 g2 k g3=> ?_,by simp[q2],k1.trans k2⟩;cases j with
    |zero=>
     simp only[nth,oinj] at g1 g2;subst g1;subst g2;simp only[oinj] at g3;subst g3;exact r1.mono e2
    |succ j=>exact r2 j c u g1 g2 k g3
   ·simp at h
  ·simp at h
 |(_,none)::_,_,_,_,_,_,_,_,h=>by simp[ZbD] at h
 |_::_,_,_,_,[],hl,_,_,_=>by simp at hl
theorem ZkE {x:Ctx} {w:World}:∀{l l':List A} {s s':St},MemR x s.mem w->l.all (Zdh s.mem)=true->Zat s l=some (l',s')->s'=s/\∀vs,RL x l vs->RL x l' vs
 |[],l',s,s',_,_,h=>by simp only[Zat,oinj,pinj] at h;obtain⟨rfl,rfl⟩:=h;exact⟨rfl,λvs hv=>hv⟩
 |a::l,l',s,s',hm,hf,h=>by
  simp only[List.all_cons,Yb] at hf;simp only[Zat] at h;split at h
  ·rename_i b s1 h1;split at h
   ·rename_i r s2 h2;simp only[oinj,pinj] at h;obtain⟨rfl,rfl⟩:=h;obtain⟨rfl,q1⟩:=ZkF hm hf.1 h1;obtain⟨rfl,q2⟩:=ZkE hm hf.2 h2;exact⟨rfl,λvs hv=>match vs,hv with|_::_,hv=>⟨q1 _ hv.1,q2 _ hv.2⟩⟩
   ·simp at h
  ·simp at h
theorem ZHM {x:Ctx} (hm:MemR x s.mem w) (hf:Zco s.mem y=true) (h:Zbe s y=some (y',s')):s'=s/\∀v,RV x y v->RV x y' v:=by
 cases y with
 |w a=>
  simp only[Zbe] at h;split at h
  ·rename_i b s1 h1;simp only[oinj,pinj] at h;obtain⟨rfl,rfl⟩:=h;cases a with
   |one a=>
    simp only[ZaF] at h1;split at h1
    ·rename_i c s2 h2;simp only[oinj,pinj] at h1;obtain⟨rfl,rfl⟩:=h1;exact ZkF hm hf h2
    ·simp at h1
   |agg l=>
    simp only[ZaF] at h1;split at h1
    ·rename_i c s2 h2;simp only[oinj,pinj] at h1;obtain⟨rfl,rfl⟩:=h1;obtain⟨q1,q2⟩:=ZkE hm hf h2;exact⟨q1,λv hv=>let ⟨C,e,hC⟩:=hv;⟨C,e,q2 C hC⟩⟩
    ·simp at h1
   |junk=>
    simp only[ZaF,oinj,pinj] at h1;obtain⟨rfl,rfl⟩:=h1;exact⟨rfl,λv hv=>hv⟩
  ·simp at h
 |tup l=>
  simp only[Zbe,oinj,pinj] at h;obtain⟨rfl,rfl⟩:=h;exact⟨rfl,λv hv=>hv⟩
theorem Zpc {x:Ctx} {w:World}:∀{l l':List V} {s s':St},MemR x s.mem w->l.all (Zco s.mem)=true->Zac s l=some (l',s')->s'=s/\∀vs,RVs x l vs->RVs x l' vs
 |[],l',s,s',_,_,h=>by simp only[Zac,oinj,pinj] at h;obtain⟨rfl,rfl⟩:=h;exact⟨rfl,λvs hv=>hv⟩
 |a::l,l',s,s',hm,hf,h=>by
  simp only[List.all_cons,Yb] at hf;simp only[Zac] at h;split at h
  ·rename_i b s1 h1;split at h
   ·rename_i r s2 h2;simp only[oinj,pinj] at h;obtain⟨rfl,rfl⟩:=h;obtain⟨rfl,q1⟩:=ZHM hm hf.1 h1;obtain⟨rfl,q2⟩:=Zpc hm hf.2 h2;exact⟨rfl,λvs hv=>match vs,hv with|_::_,hv=>⟨q1 _ hv.1,q2 _ hv.2⟩⟩
   ·simp at h
  ·simp at h
end Go.S3
namespace Go.S3
variable {P:Program}
variable {s:St} {a:Act}
theorem ZWk {x:Ctx} (hf:RF x s.Sl a.tmps) {d:Option Operand} {z p:Bool×Int} (h:opdI s d z=some p):
  (d=none/\p=z)\/∃o k,d=some o/\a.eval o=.int k p.2:=by
 unfold opdI at h;split at h
 ·simp only[oinj] at h;exact .inl ⟨rfl,h.symm⟩
 ·rename_i o;split at h
  ·rename_i l k n hn;simp only[oinj] at h;subst h;exact .inr ⟨o,k,rfl,(ZcM (Zak hf hn)).1⟩
  ·simp at h
def bnd (d:Option Value) (z:Int):Option Int:=match d with
 |none=>some z
 |some (.int _ n)=>some n
 |_=>none
theorem Zje {x:Ctx} (hf:RF x s.Sl a.tmps) {d:Option Operand} {z p:Bool×Int} (h:opdI s d z=some p):bnd (d.map a.eval) z.2=some p.2:=by
 rcases ZWk hf h with ⟨rfl,rfl⟩|⟨o,k,rfl,e⟩
 ·rfl
 ·simp[bnd,e]
variable {w:World} {t elem:TypeId}
theorem ZyO (ht:P.underlying t=some (.slice elem)) {i:TypeInfo} (hi:P.info? elem=some i) (b:Option Addr) (n cap:Nat) (hn:n<=cap) (lo hi' mx:Option Value) (l h m:Int)
  (hl:bnd lo 0=some l) (hh:bnd hi' n=some h) (hm:bnd mx h=some m) (hmh:m=h) (hms:mx.isSome=true->hi'.isSome=true) (h0:0<=l) (h1:l<=h) (h2:h<=n):
  (Instr.sliceAt t (.slice b n cap) lo hi' mx).run P w=.ok (.slice (if (if mx.isSome then h.toNat else cap)=l.toNat then b else b.map (·.add (l.toNat*i.size))) (h.toNat-l.toNat) ((if mx.isSome then h.toNat else cap)-l.toNat)) w:=by
 subst hmh;have hb:∀(d:Value) (k:IntKind) (v:Int) (y:Nat) (c:BoundsCode),d=.int k v->0<=v->v<=y->(Instr.sliceBound d y c).run P w=.ok v.toNat w:=by intro d k v y c e e1 e2;subst e;simp[Instr.sliceBound,asIntOf,e1,e2]
 have int_bnd:∀(d:Value) (z v:Int),bnd (some d) z=some v->∃k,d=.int k v:=by
  intro d z v e;unfold bnd at e;split at e
  ·rename_i e';simp at e'
  ·rename_i k n e';simp only[oinj] at e e';subst e;exact⟨k,e'⟩
  ·simp at e
 have hm0:0<=m:=by omega
 have key:∀L H M:Nat,L=l.toNat->H=m.toNat->(Instr.sliceBounds true n cap lo hi' mx).run P w=.ok (L,H,M) w->
   (Instr.sliceAt t (.slice b n cap) lo hi' mx).run P w=.ok (.slice (if M=L then b else b.map (·.add (L*i.size))) (H-L) (M-L)) w:=by intro L H M _ _ hs;simp[Instr.sliceAt,run_underlying ht,Instr.slice,hs,sizeOf,typeInfo,hi]
 have hb':∀(d:Value) (z v:Int) (y:Nat) (c:BoundsCode),bnd (some d) z=some v->0<=v->v<=y->(Instr.sliceBound d y c).run P w=.ok v.toNat w:=by intro d z v y c e e1 e2;obtain⟨k,e3⟩:=int_bnd d z v e;exact hb d k v y c e3 e1 e2
 cases mx with
 |some mv=>
  cases hi' with
  |none=>simp at hms
  |some hv=>
   have r1:=hb' mv m m cap .slice3Acap hm hm0 (by omega);have r2:=hb' hv n m m.toNat .slice3B hh hm0 (by omega);cases lo with
   |none=>
    have:l=0:=by simpa [bnd] using hl.symm
    subst this;exact key 0 _ _ rfl rfl (by simp[Instr.sliceBounds,r1,r2])
   |some lv=>
    have r3:=hb' lv 0 l m.toNat .slice3C hl h0 (by omega);exact key _ _ _ rfl rfl (by simp[Instr.sliceBounds,r1,r2,r3])
 |none=>
  cases hi' with
  |none=>
   have:m=n:=by simpa [bnd] using hh.symm
   subst this;cases lo with
   |none=>
    have:l=0:=by simpa [bnd] using hl.symm
    subst this;have:=key 0 n cap rfl rfl (by simp[Instr.sliceBounds]);simpa using this
   |some lv=>
    have r3:=hb' lv 0 l n .sliceB hl h0 (by omega);have:=key l.toNat n cap rfl rfl (by simp[Instr.sliceBounds,r3]);simpa using this
  |some hv=>
   have r2:=hb' hv n m cap .sliceAcap hh hm0 (by omega);cases lo with
   |none=>
    have:l=0:=by simpa [bnd] using hl.symm
    subst this;exact key 0 _ _ rfl rfl (by simp[Instr.sliceBounds,r2])
   |some lv=>
    have r3:=hb' lv 0 l m.toNat .sliceB hl h0 (by omega);exact key _ _ _ rfl rfl (by simp[Instr.sliceBounds,r2,r3])
theorem ZiH (ht:P.underlying t=some .string) (b:ByteArray) (lo hi':Option Value) (l h:Int)
  (hl:bnd lo 0=some l) (hh:bnd hi' (b.size:Nat)=some h) (h0:0<=l) (h1:l<=h) (h2:h<=(b.size:Nat)):
  (Instr.sliceAt t (.string b) lo hi' none).run P w=.ok (.string (b.extract l.toNat h.toNat)) w:=by
 have hb':∀(d:Value) (z v:Int) (y:Nat) (c:BoundsCode),bnd (some d) z=some v->0<=v->v<=y->(Instr.sliceBound d y c).run P w=.ok v.toNat w:=by
  intro d z v y c e e1 e2;unfold bnd at e;split at e
  ·rename_i e';simp at e'
  ·rename_i k n e';simp only[oinj] at e e';subst e;subst e';simp[Instr.sliceBound,asIntOf,e1,e2]
  ·simp at e
 have key:∀L H M:Nat,L=l.toNat->H=h.toNat->(Instr.sliceBounds false b.size b.size lo hi' none).run P w=.ok (L,H,M) w->
   (Instr.sliceAt t (.string b) lo hi' none).run P w=.ok (.string (b.extract l.toNat h.toNat)) w:=by intro L H M e1 e2 hs;subst e1;subst e2;simp[Instr.sliceAt,run_underlying ht,Instr.slice,hs]
 cases hi' with
 |none=>
  have:h=(b.size:Nat):=by simpa [bnd] using hh.symm
  subst this;cases lo with
  |none=>
   have:l=0:=by simpa [bnd] using hl.symm
   subst this;exact key 0 b.size b.size rfl rfl (by simp[Instr.sliceBounds])
  |some lv=>
   have r3:=hb' lv 0 l b.size .sliceB hl h0 (by omega);exact key l.toNat b.size b.size rfl rfl (by simp[Instr.sliceBounds,r3])
 |some hv=>
  have r2:=hb' hv (b.size:Nat) h b.size .sliceAlen hh (by omega) (by omega);cases lo with
  |none=>
   have:l=0:=by simpa [bnd] using hl.symm
   subst this;exact key 0 h.toNat b.size rfl rfl (by simp[Instr.sliceBounds,r2])
  |some lv=>
   have r3:=hb' lv 0 l h.toNat .sliceB hl h0 (by omega);exact key l.toNat h.toNat b.size rfl rfl (by simp[Instr.sliceBounds,r2,r3])
variable {vx:Value} {res:Res}
theorem Zvy {x:Ctx} (hf:RF x s.Sl a.tmps) {b:ByteArray} (hx:RA x (.str b) vx) {low high max:Option Operand}
  (h:Zqg P s t b low high max=some res) (hc:res.chk≠some false):
  res.m=s.mem/\res.bd=s.bd/\res.sd=s.sd/\∃v,(∀w':World,(Instr.sliceAt t vx (low.map a.eval) (high.map a.eval) (max.map a.eval)).run P w'=.ok v w')/\RV x res.v v:=by
 unfold Zqg at h;split at h
 case h_2=>simp at h
 rename_i hu;split at h
 case h_2=>simp at h
 rename_i l hh hl hhh;simp only[ofSt,oinj] at h;subst h;cases hx;have hb:(decide (0<=l.2)&&decide (l.2<=hh.2)&&decide (hh.2<=(b.size:Int)))=true:=by revert hc;simp only[];cases (decide (0<=l.2)&&decide (l.2<=hh.2)&&decide (hh.2<=(b.size:Int)))<;>simp
 simp only[Yb,Yf] at hb;exact⟨rfl,rfl,rfl,_,λw'=>ZiH (P:=P) (w:=w') hu b _ _ l.2 hh.2 (Zje hf hl) (Zje hf hhh) hb.1.1 hb.1.2 hb.2,.str _ _⟩
variable {b:Int}
theorem ZPM {α:Type} {l:List α} {a:Int} (h2:b<=l.length):(subL l a b).length=b.toNat-a.toNat:=by unfold subL;simp;omega
theorem ZOp {r:R} {l:List r.den} {a:Int} {i:Nat} (hi:i<b.toNat-a.toNat):elN r (subL l a b) i=elN r l (a.toNat+i):=by simp only[elN,subL,Yl,YI,YX hi,YN]
variable {xa:A}
theorem Zvz {x:Ctx} (hf:RF x s.Sl a.tmps) (hm:MemR x s.mem w) (hx:RA x xa vx) (hnt:∀h v,xa≠ .tip h v) {low high max:Option Operand}
  (h:sliceB P s t xa low high max=some res) (hc:res.chk≠some false):
  res.m=s.mem/\res.bd=s.bd/\res.sd=s.sd/\∃v,(∀w',(Instr.sliceAt t vx (low.map a.eval) (high.map a.eval) (max.map a.eval)).run P w'=.ok v w')/\RV x res.v v:=by
 unfold sliceB at h;split at h
 case h_2=>simp at h
 rename_i elem hu;split at h
 case h_2=>simp at h
 rename_i r hel;obtain⟨i,z,hi,hz,hzs,hsz,hby,hw⟩:=ZhC hel;split at h
 case h_2=>simp at h
 rename_i q hq;split at h
 case h_2=>simp at h
 rename_i l hh hl hhh;split at h
 case h_2=>simp at h
 rename_i m hmm;split at h
 case h_2=>simp at h
 rename_i hmh;simp only[Yb,YM,Yf,YJ,Yan] at hmh;obtain⟨hmh,hms⟩:=hmh;have hmh:m.2=hh.2:=by
  rcases hmh with hmh|hmh
  ·cases max with
   |none=>simp only[opdI,oinj] at hmm;rw[hmm]
   |some o=>simp at hmh
  ·exact hmh
 have hms:max.isSome=true->high.isSome=true:=by
  intro e;rcases hms with h'|h'
  ·rw[e] at h';simp at h'
  ·cases high<;>simp at h'|-
 split at h
 case h_2=>simp at h
 rename_i chk hchk;simp only[ofSt,oinj] at h;subst h;have hb:=Zky hchk hc;simp only[Yb,YM,Yf] at hb;obtain⟨⟨h0,h1⟩,h2'⟩:=hb;have h2:hh.2<=(q.l.length:Int):=by omega
 refine⟨rfl,rfl,rfl,?_⟩;have e1:=Zje hf hl;have e2:=Zje hf hhh;have e3:=Zje hf hmm;have hms':(max.map a.eval).isSome=true->(high.map a.eval).isSome=true:=by simpa using hms
 obtain⟨b,cap,news,rfl,SX⟩:=ZrL hm hx hq;refine⟨_,λw'=>ZyO (P:=P) (w:=w') hu hi b q.l.length cap SX.hcap _ _ _ l.2 hh.2 m.2 e1 e2 e3 hmh hms' h0 h1 h2,?_⟩;have hlen:=ZPM (a:=l.2) (b:=hh.2) h2;have hcases:(xa=.nilsl/\q.l=[]/\b=none/\q.full=true)\/∃lit full nn,xa=.lst r lit full nn q.l/\q.full=full:=by
  cases xa with
  |nilsl=>
   simp only[sqOf,oinj] at hq;subst hq;cases hx;exact .inl ⟨rfl,rfl,rfl,rfl⟩
  |lst r' lit full nn l'=>
   simp only[sqOf] at hq;split at hq
   ·rename_i e _;simp only[oinj] at hq;subst hq;cases e;exact .inr ⟨lit,full,nn,rfl,rfl⟩
   ·simp at hq
  |tip h v=>exact absurd rfl (hnt h v)
  |_=>simp[sqOf] at hq
 have hmx:(max.map a.eval).isSome=max.isSome:=by simp
 rw[hmx];generalize hM:(if max.isSome=true then hh.2.toNat else cap)=M;have hM1:hh.2.toNat<=M:=by
  rw[<-hM];split
  ·exact Ye _
  ·have:=SX.hcap;omega
 have hfull:((q.full&&high.isNone)||max.isSome)=true->M-l.2.toNat=hh.2.toNat-l.2.toNat:=by
  intro e;simp only[YM,Yb] at e;rcases e with ⟨e,e'⟩|e
  ·have hcap:=SX.hfull e;cases high with
   |some o=>simp at e'
   |none=>
    have hmax:max.isSome=false:=by
     cases hmx':max.isSome with
     |false=>rfl
     |true=>have:=hms hmx';simp at this
    simp only[opdI,oinj] at hhh;rw[hmax] at hM;simp at hM;rw[<-hM,hcap,<-hhh];simp
  ·rw[e] at hM;simp at hM;rw[hM]
 show RA x (.lst r (l.1&&hh.1) ((q.full&&high.isNone)||max.isSome) (nnA xa) (subL q.l l.2 hh.2)) _;rw[<-hlen] at hfull|-;by_cases he:hh.2.toNat-l.2.toNat=0
 ·have hl0:subL q.l l.2 hh.2=[]:=Y9 (by rw[hlen];exact he);have:(subL q.l l.2 hh.2).length=0:=by rw[hlen];exact he
  rw[this] at hfull|-;refine .lst0 _ _ _ _ _ _ _ _ hl0 hfull (λe=> ?_) (λe=> ?_)
  rotate_left
  ·have hb0:b=none:=by
    split at e
    ·exact e
    ·simpa using e
   have hcap0:cap=0:=by
    subst hb0;generalize hvx:Value.slice none q.l.length cap=vx at hx;rcases hcases with ⟨rfl,_,_,_⟩|⟨lit,full,nn,rfl,_⟩
    ·cases hx;injection hvx
    ·cases hx with
     |lst0 _ _ _ _ _ _ a' cap' _ _ _ h4=>
      injection hvx with q1 _ q3
      rw[q3];exact h4 q1.symm
     |lst _ _ _ _ _ _ p o _ c=>injection hvx with q1 _ _;simp at q1
   have:=SX.hcap;rw[<-hM];split<;>omega
  rcases hcases with ⟨rfl,_,_,_⟩|⟨lit,full,nn,rfl,_⟩
  ·simp[nnA] at e
  ·have hbs:b.isSome=true:=by
    simp only[nnA] at e;obtain⟨a',cap',news',e1',_,hs⟩:=ZrP hm hx;injection e1' with e1' _ _
    rw[e1'];exact hs e
   split
   ·exact hbs
   ·simpa using hbs
 ·have hne:subL q.l l.2 hh.2≠[]:=λe=>by rw[e] at hlen;simp at hlen;omega
  rcases hcases with ⟨_,hq0,_,_⟩|⟨lit,full,nn,rfl,_⟩
  ·rw[hq0] at h2;simp at h2;omega
  ·generalize hvx:Value.slice b q.l.length cap=vx at hx;cases hx with
   |lst0 _ _ _ _ _ _ _ _ h3 _ _ _=>rw[h3] at h2;simp at h2;omega
   |lst _ _ _ _ _ _ p o _ c g0 g1 g2 gm g3 g4=>
    injection hvx with hvx1 _ _
    subst hvx1;rw[Y3 (by omega)];simp only[Option.map_some,Zd3];refine .lst _ _ _ _ _ _ p _ _ (λi' j=>c (l.2.toNat+i') j) hne hfull (by rw[hlen];omega) (by rw[hlen];omega) (λi' j d hi' hd=> ?_) (λi' j d hi' hd=> ?_)
    ·rw[hlen] at hi';rw[ZOp hi'] at hd;have:=g3 (l.2.toNat+i') j d (by omega) hd;rw[<-this];congr 1;rw[YaM,hw];omega
    ·rw[hlen] at hi';rw[ZOp hi'] at hd;exact g4 (l.2.toNat+i') j d (by omega) hd
theorem Zfg (ht:P.underlying t=some (.slice elem)) {i:TypeInfo} (hi:P.info? elem=some i) (b:Addr) (n cap:Nat) (k:IntKind) (j:Int) (h0:0<=j) (h1:j<n):
  (Instr.indexAt t (.slice (some b) n cap) (.int k j)).run P w=.ok (.pointer (some (b.add (j.toNat*i.size)))) w:=by simp[Instr.indexAt,asIntOf,run_underlying ht,h0,h1,sizeOf,typeInfo,hi]
variable {n:Nat}
theorem Zfh {m:Nat} (ht:P.underlying t=some (.array m elem)) (hn:Zj4 P elem=some n) (b:Addr) (k:IntKind) (j:Int) (h0:0<=j) (h1:j<m):
  (Instr.indexAt t (.pointer (some b)) (.int k j)).run P w=.ok (.pointer (some (b.add (j.toNat*n)))) w:=by simp[Instr.indexAt,asIntOf,run_underlying ht,h0,h1,ZbT hn,Instr.sureAddr]
theorem ZP {i:Int}:Zh i n=true↔0<=i/\i<n:=by simp[Zh]
theorem Zkq {r:R} (hw:r.wid=1) (l:List r.den):∀(n j k:Nat) (a:A),nth (Zx6 r l j n) k=some a->k<n/\nth (elN r l (j+k)) 0=some a
 |0,j,k,a,h=>by simp[Zx6,Zn] at h
 |n+1,j,k,a,h=>by
  have hlen:(r.enc (r.get l (j:Int))).length=1:=by rw[R.enc_len];exact hw
  match he:r.enc (r.get l (j:Int)),hlen with
  |[b],_=>
   simp only[Zx6,he,List.cons_append,List.nil_append] at h;cases k with
   |zero=>
    refine⟨by omega,?_⟩;simp only[nth] at h;show nth (r.enc (r.get l ((j+0:Nat):Int))) 0=_;rw[Nat.add_zero,he];exact h
   |succ k=>
    simp only[nth] at h;obtain⟨h1,h2⟩:=Zkq hw l n (j+1) k a h;have e:j+(k+1)=j+1+k:=by omega
    exact⟨by omega,by rw[e];exact h2⟩
theorem ZPb {x:Ctx} (hx:RA x xa vx) (h:Zyd P s t xa=some res) (hc:res.chk≠some false):
  res.m=s.mem/\res.bd=s.bd/\res.sd=s.sd/\∃v,(∀w',(Instr.arrayAt t vx).run P w'=.ok v w')/\RV x res.v v:=by
 unfold Zyd at h;split at h
 ·rename_i n elem r ll _ _ l hu;split at h
  ·rename_i hwn;simp only[Yb,Yt,Yaf] at hwn;split at h
   case h_2=>simp at h
   rename_i chk hchk;simp only[ofSt,oinj] at h;subst h;have hb:=Zky hchk hc;rw[Yy] at hb;refine⟨rfl,rfl,rfl,?_⟩;cases hx with
   |lst0 _ _ _ _ _ _ _ _ h3 _ _ _=>rw[h3] at hb;simp at hb;omega
   |lst _ _ _ _ _ _ p o cap c g0 g1 g2 gm g3 g4=>
    refine⟨.pointer (some ⟨p,o,none⟩),λw'=> ?_,?_⟩
    ·have hn:¬l.length<n:=by omega
     simp[Instr.arrayAt,run_underlying hu,hn]
    ·refine .fp _ _ p o (λk=>c k 0) (λk d hd=> ?_) (λk d hd=> ?_)
     ·obtain⟨h1,h2⟩:=Zkq hwn.1 l n 0 k d hd;rw[Yu] at h2;have:=g3 k 0 d (by omega) h2;rw[hwn.1] at this;simpa using this
     ·obtain⟨h1,h2⟩:=Zkq hwn.1 l n 0 k d hd;rw[Yu] at h2;exact g4 k 0 d (by omega) h2
  ·simp at h
 ·simp at h
theorem Zjv {x:Ctx} (hm:MemR x s.mem w) {ia:A} {vi:Value} (hx:RA x xa vx) (hi:RA x ia vi) (h:ZaN P s t xa ia=some res) (hc:res.chk≠some false):
  res.m=s.mem/\res.bd=s.bd/\res.sd=s.sd/\∃v,(∀w',(Instr.indexAt t vx vi).run P w'=.ok v w')/\RV x res.v v:=by
 unfold ZaN at h;split at h
 ·rename_i elem lit ik j hu;obtain⟨rfl,hir⟩:=ZcM hi;split at h
  case h_2=>simp at h
  rename_i r hel;obtain⟨i,z,hi',hz,hzs,hsz,hby,hw⟩:=ZhC hel;split at h
  ·rename_i hh ver;split at h
   case h_2=>simp at h
   rename_i g hg;split at h
   case h_2=>simp at h
   rename_i e he;split at h
   case h_2=>simp at h
   rename_i chk hchk;simp only[ofSt,oinj] at h;subst h;have hb:=Zky hchk hc;rw[ZP] at hb;obtain⟨si,hs,hok,rfl⟩:=Zf8 hm hx hg;obtain⟨hg1,hg2⟩:=ZR hg;have hr:g.r=r:=R.same_eq he;refine⟨rfl,rfl,rfl,?_⟩;have hbl:∃p cap,si.blk=some (p,cap):=by
    cases hb':si.blk with
    |none=>have:=(hok.nil hb').1;rw[hok.n] at this;omega
    |some pc=>exact⟨pc.1,pc.2,rfl⟩
   obtain⟨p,cap,hbl⟩:=hbl;rw[Zfa hbl];refine⟨_,λw'=>Zfg (P:=P) (w:=w') hu hi' ⟨p,0,none⟩ si.n cap ik j hb.1 (by rw[hok.n];exact hb.2),?_⟩;rw[Zd3,Yu];refine .sp _ _ _ _ _ si _ hs (by rw[hok.ver,hg2];exact Ye _) (λ_=>⟨p,cap,hbl,hb.1,by rw[hok.n];omega,?_⟩) trivial;rw[hok.wd,hr,hw];rfl
  ·rename_i r' ll _ _ l;split at h
   case h_2=>simp at h
   rename_i e he;split at h
   case h_2=>simp at h
   rename_i chk hchk;simp only[ofSt,oinj] at h;subst h;have hb:=Zky hchk hc;rw[ZP] at hb;cases e;refine⟨rfl,rfl,rfl,?_⟩;cases hx with
   |lst0 _ _ _ _ _ _ _ _ h3 _ _ _=>rw[h3] at hb;simp at hb;omega
   |lst _ _ _ _ _ _ p o cap c g0 g1 g2 gm g3 g4=>
    refine⟨_,λw'=>Zfg (P:=P) (w:=w') hu hi' ⟨p,o,none⟩ _ cap ik j hb.1 hb.2,?_⟩;rw[Zd3];have hlt:j.toNat<l.length:=by omega
    refine .fp _ _ p _ (λk=>c j.toNat k) (λk d hd=> ?_) (λk d hd=>g4 j.toNat k d hlt hd);have:=g3 j.toNat k d hlt hd;rw[hw] at this;exact this
  ·simp at h
 ·rename_i m elem ik j hu;obtain⟨rfl,hir⟩:=ZcM hi;split at h
  case h_2=>simp at h
  rename_i n hn;split at h
  ·rename_i hrg;rw[ZP] at hrg;simp only[Zbo,oinj] at h;subst h;refine⟨rfl,rfl,rfl,?_⟩;cases hx with
   |loc _ _ _ q hq=>
    refine⟨_,λw'=>Zfh (P:=P) (w:=w') hu hn _ ik j hrg.1 hrg.2,?_⟩;rw[Zd3];exact .loc _ _ _ _ hq
  ·rename_i l hrg;rw[ZP] at hrg;simp only[Zbo,oinj] at h;subst h;refine⟨rfl,rfl,rfl,?_⟩;cases hx with
   |fp _ _ q o c hf hr=>
    refine⟨_,λw'=>Zfh (P:=P) (w:=w') hu hn _ ik j hrg.1 hrg.2,?_⟩;rw[Zd3];refine .fp _ _ _ _ (λk=>c (j.toNat*n+k)) (λk d hd=> ?_) (λk d hd=> ?_)
    ·rw[ZcZ,Zi,YN,<-Zi] at hd;rw[Yat];exact hf _ _ hd
    ·rw[ZcZ,Zi,YN,<-Zi] at hd;exact hr _ _ hd
  ·simp at h
 ·simp at h
theorem ZWQ (h:n<=maxLen):inR .i64 (n:Int)/\goInt n=.int .i64 (n:Int):=by
 have h':n<=9223372036854775807:=by simp only[maxLen] at h;omega
 refine⟨?_,rfl⟩;simp[inR,IntKind.min,IntKind.max,IntKind.signed,IntKind.bits];omega
variable {ty:TypeId}
theorem ZrY (ht:P.underlying t=some (.slice elem)) (b:Option Addr) (n cap:Nat):(Builtin.len_ #[t] ty #[.slice b n cap]).run P w=.ok (goInt n) w:=by simp[Builtin.len_,run_underlying ht]
theorem ZrX (ht:P.underlying t=some (.array n elem)) (v:Value):(Builtin.len_ #[t] ty #[v]).run P w=.ok (goInt n) w:=by simp[Builtin.len_,run_underlying ht]
end Go.S3
namespace Go.S3
variable {P:Program}
def Zb5 (w w':World):Prop:=ZI w w'/\w'.os=w.os/\w'.tape=w.tape/\w'.output=w.output
theorem Zb5.refl (w:World):Zb5 w w:=⟨ZI.refl w,rfl,rfl,rfl⟩
theorem Zb5.trans {a b c:World} (h:Zb5 a b) (k:Zb5 b c):Zb5 a c:=⟨h.1.trans k.1,k.2.1.trans h.2.1,k.2.2.1.trans h.2.2.1,k.2.2.2.trans h.2.2.2⟩
theorem Zb5.drew (w:World):Zb5 w {w with drawn:=w.drawn+1}:=⟨⟨Ye _,λ_ _=>rfl⟩,rfl,rfl,rfl⟩
theorem Zb5.alloc (w:World) (o:Obj):Zb5 w (w.alloc o):=⟨ZI.alloc w o,rfl,rfl,rfl⟩
theorem Zb5.step {x:Ctx} {m:Mem} {w w':World} (h:Zb5 w w') (hm:MK x m w):Step x w w':=h.1.step hm h.2.1 h.2.2.1 h.2.2.2
theorem Zhm (l:List A):∀n,(repL l n).length=n*l.length
 |0=>by simp[repL]
 |n+1=>by simp only[repL,Yd,Zhm l n];rw[Nat.succ_mul];omega
theorem Zr3 (l:List A):∀(n k:Nat),k<n*l.length->nth (repL l n) k=nth l (k%l.length)
 |0,k,h=>by simp at h
 |n+1,k,h=>by
  simp only[repL];rw[Zi];by_cases hk:k<l.length
  ·rw[Yp hk,Ya2 hk,Zi]
  ·have h1:l.length<=k:=by omega
   rw[YT h1,<-Zi,Zr3 l n (k-l.length) (by rw[Nat.succ_mul] at h;omega)];congr 1;exact (Nat.mod_eq_sub_mod h1).symm
theorem ZkL {r:R}:∀{rows:List (List A)} {xs:List r.den},ZkM r rows=some xs->xs.length=rows.length/\∀j y,nth rows j=some y->∃x,xs[j]? =some x/\r.decW y=some x
 |[],xs,h=>by simp only[ZkM,oinj] at h;subst h;exact⟨rfl,λj y e=>by simp[Zn] at e⟩
 |y::l,xs,h=>by
  simp only[ZkM] at h;split at h
  ·rename_i x xs' h1 h2;simp only[oinj] at h;subst h;obtain⟨q1,q2⟩:=ZkL h2;refine⟨by simp[q1],λj y' e=> ?_⟩;cases j with
   |zero=>simp only[nth,oinj] at e;subst e;exact⟨x,rfl,h1⟩
   |succ j=>exact q2 j y' e
  ·simp at h
variable {s:St} {w:World} {t:TypeId} {n:Nat} {ps:List (Nat×Option (List A))} {res:Res}
theorem Zh0 {x:Ctx} {m0:Mem} (hm:MK x m0 w) {vs:List (Nat×Value)} (hfst:ps.map (·.1)=vs.map (·.1)) (hps:PsOk x ps vs)
  (h:Zdo P s t n ps=some res):
  res.m=s.mem/\res.bd=s.bd/\res.sd=s.sd/\∃v w' x',(Instr.buildSlice t n vs.toArray).run P w=.ok v w'/\RV x' res.v v/\MK x' m0 w'/\Ext x x'/\Zb5 w w':=by
 unfold Zdo at h;split at h
 case h_2=>simp at h
 rename_i elem hu;split at h
 case h_2=>simp at h
 rename_i r zl hel hzl;obtain⟨i,z,hi,hz,hzs,hsz,hby,hw⟩:=ZhC hel;split at h
 case h_2=>simp at h
 rename_i hbig;simp only[Yy] at hbig;split at h
 case h_2=>simp at h
 rename_i l hfill;split at h
 case h_2=>simp at h
 rename_i rows hrows;split at h
 case h_2=>simp at h
 rename_i xs hxs;simp only[ofSt,oinj] at h;subst h;refine⟨rfl,rfl,rfl,?_⟩;obtain⟨zv,hzr,hzl'⟩:=Zeb (P:=P) (x:=x) hzl;have hzv:zv=z:=by have:=hzr w;simp[zeroValue,typeInfo,hi,hz] at this;exact this.symm
 subst hzv;have hzlen:zl.length=i.size:=by rw[hzl'.length,Array.length_toList,hzs]
 let Z:List Value:=(List.range (n*i.size)).map λk=>zv.cells.toList[k%i.size]?.getD undef
 have hZ:RL x (repL zl n) Z:=by
  refine RL.of_nth (by simp[Z,Zhm,hzlen]) λk b hb=> ?_
  have hk:k<n*i.size:=by have:=ZZ hb;rwa [Zhm,hzlen] at this
  rw[Zr3 zl n k (by rw[hzlen];exact hk),hzlen] at hb;obtain⟨u,e1,e2⟩:=hzl'.nth _ _ hb;exact⟨u,by simp only[Z];rw[Yas,YaH hk];simp only[Option.map_some,e1,Option.getD_some],e2⟩
 obtain⟨D,hfl,hD⟩:=ZjC (x:=x) (λj=>some (j*r.wid,r.wid)) ps vs (repL zl n) l Z hfst hps hZ hfill;have hzeros:(if n*i.size=0 then (pure #[]:Sem (Array Value)) else do pure (<-zeroValue elem).cells).run P w=.ok (if n*i.size=0 then #[] else zv.cells) w:=by
  split
  ·rfl
  ·simp[hzr w]
 have hZa:∀C:Array Value,(n*i.size=0\/C=zv.cells)->((Array.range (n*i.size)).map (C[· %C.size]!))=Z.toArray:=by
  intro C hC;apply YaC;simp only[YaF,Array.toList_range];simp only[Z];apply List.map_congr_left;intro k hk;rw[Yaz] at hk;rcases hC with hC|hC
  ·omega
  ·subst hC;rw[hzs];have hlt:k%i.size<zv.cells.size:=by rw[hzs];exact Nat.mod_lt _ hsz
   rw[getElem!_pos zv.cells _ hlt];simp[hlt]
 have hrun:(Instr.buildSlice t n vs.toArray).run P w=.ok (.slice (some ⟨w.heap.size,0,none⟩) n n) (w.alloc (.cells D.toArray elem)):=by
  have hnb:¬(n*i.size>2^24):=by rw[hw] at hbig;omega
  have hfl':Instr.fill (λj=>some (j*i.size,i.size)) Z.toArray vs=some D.toArray:=by rw[<-hw];exact hfl
  have hZ1:=hZa #[];by_cases h0:n*i.size=0
  ·have e1:=hZa #[] (.inl h0);simp only[h0] at e1;simp at e1;simp[Instr.buildSlice,run_underlying hu,sizeOf,typeInfo,hi,h0,newRow];rw[e1,hfl'];rfl
  ·have e1:=hZa zv.cells (.inr rfl);simp[Instr.buildSlice,run_underlying hu,sizeOf,typeInfo,hi,hnb,h0,newRow,hzr w];rw[e1,hfl'];rfl
 obtain⟨q1,q2⟩:=ZiI r.wid n l rows hrows;obtain⟨q3,q4⟩:=ZkL hxs;have hxl:xs.length=n:=q3.trans q1;obtain⟨m1,m2⟩:=hm.frzNew D elem;refine⟨_,_,_,hrun,?_,m1,m2,Zb5.alloc w _⟩;have hrow:∀i' j d,i'<xs.length->nth (elN r xs i') j=some d->∃u,D[i'*r.wid+j]? =some u/\RA (Ctx.bare {x with fz:=λb o=>if b=w.heap.size then D[o]? else x.fz b o}) d u:=by
  intro i' j d hi' hd;obtain⟨y,hy⟩:=ZcT (l:=rows) (n:=i') (by rw[q1];omega);obtain⟨xv,e1,e2⟩:=q4 i' y hy;obtain⟨e3,e4⟩:=q2 i' y hy;have hy2:RL x y ((D.drop (i'*r.wid)).take r.wid):=by rw[e3];exact (hD.drop _).take _
  have hen:=R.decW_ok e2 hy2;have hel':elN r xs i'=r.enc xv:=by simp[elN,Yl,e1]
  have hj:=ZjD hd;rw[hel'] at hd;obtain⟨u,f1,f2⟩:=hen.nth j d hd;refine⟨u,?_,f2.plain (λb o v e=>m2.fz b o v e) (R.enc_plain _ _ _ (Zbd hd))⟩;rw[YI,YX hj,YN] at f1;exact f1
 have hnm:xs.length<=maxLen:=by rw[hxl];have:n*1<=n*r.wid:=YaR _ (by omega);simp only[maxLen];omega
 have:=ZdC (y:={x with fz:=λb o=>if b=w.heap.size then D[o]? else x.fz b o}) (r:=r) (l:=xs) (C:=D) (p:=w.heap.size) (cap:=n) (lit:=true) (full:=true) (nn:=true) (by omega) hnm (λ_=>hxl.symm)
  (λk u e=>(YX rfl).trans e) hrow
 rw[hxl] at this;exact this
theorem ZDp:∀(xs l:List A) (o:Nat) (l':List A),putN l o xs=some l'->l'.length=l.length
 |[],l,o,l',h=>by simp only[putN,oinj] at h;subst h;rfl
 |x::xs,l,o,l',h=>by
  simp only[putN] at h;split at h
  ·rw[ZDp xs _ _ _ h,ZH,YaI]
  ·simp at h
theorem ZxL (pl:Nat->Option (Nat×Nat)):∀(ps:List (Nat×Option (List A))) (l r:List A),Zpk pl l ps=some r->r.length=l.length
 |[],l,r,h=>by simp only[Zpk,oinj] at h;subst h;rfl
 |(i,v)::ps,l,r,h=>by
  simp only[Zpk] at h;split at h
  ·split at h
   ·simp at h
   ·split at h
    ·rename_i c hc;rw[ZxL pl ps _ _ h,ZDp _ _ _ _ hc]
    ·simp at h
  ·simp at h
theorem ZpY {x:Ctx} (hm:MK x s.mem w) {vs:List (Nat×Value)} (hfst:ps.map (·.1)=vs.map (·.1)) (hps:PsOk x ps vs)
  (h:Zdn P s t n ps=some res):
  res.bd=s.bd/\res.sd=s.sd/\∃v w' x',(Instr.buildSlice t n vs.toArray).run P w=.ok v w'/\RV x' res.v v/\MK x' res.m w'/\Ext x x'/\Step x w w':=by
 unfold Zdn at h;split at h
 case h_2=>simp at h
 rename_i elem hu;split at h
 case h_2=>simp at h
 rename_i r zl hel hzl;obtain⟨i,z,hi,hz,hzs,hsz,hby,hw⟩:=ZhC hel;split at h
 case h_2=>simp at h
 rename_i hbig;simp only[Yy] at hbig;split at h
 case h_2=>simp at h
 rename_i l hfill;split at h
 case h_2=>simp at h
 rename_i rows hrows;split at h
 case h_2=>simp at h
 rename_i xs hxs;simp only[Zjg,oinj] at h;subst h;refine⟨rfl,rfl,?_⟩;obtain⟨zv,hzr,hzl'⟩:=Zeb (P:=P) (x:=x) hzl;have hzv:zv=z:=by have:=hzr w;simp[zeroValue,typeInfo,hi,hz] at this;exact this.symm
 subst hzv;have hzlen:zl.length=i.size:=by rw[hzl'.length,Array.length_toList,hzs]
 let Z:List Value:=(List.range (n*i.size)).map λk=>zv.cells.toList[k%i.size]?.getD undef
 have hZ:RL x (repL zl n) Z:=by
  refine RL.of_nth (by simp[Z,Zhm,hzlen]) λk b hb=> ?_
  have hk:k<n*i.size:=by have:=ZZ hb;rwa [Zhm,hzlen] at this
  rw[Zr3 zl n k (by rw[hzlen];exact hk),hzlen] at hb;obtain⟨u,e1,e2⟩:=hzl'.nth _ _ hb;exact⟨u,by simp only[Z];rw[Yas,YaH hk];simp only[Option.map_some,e1,Option.getD_some],e2⟩
 obtain⟨D,hfl,hD⟩:=ZjC (x:=x) (λj=>some (j*r.wid,r.wid)) ps vs (repL zl n) l Z hfst hps hZ hfill;have hzeros:(if n*i.size=0 then (pure #[]:Sem (Array Value)) else do pure (<-zeroValue elem).cells).run P w=.ok (if n*i.size=0 then #[] else zv.cells) w:=by
  split
  ·rfl
  ·simp[hzr w]
 have hZa:∀C:Array Value,(n*i.size=0\/C=zv.cells)->((Array.range (n*i.size)).map (C[· %C.size]!))=Z.toArray:=by
  intro C hC;apply YaC;simp only[YaF,Array.toList_range];simp only[Z];apply List.map_congr_left;intro k hk;rw[Yaz] at hk;rcases hC with hC|hC
  ·omega
  ·subst hC;rw[hzs];have hlt:k%i.size<zv.cells.size:=by rw[hzs];exact Nat.mod_lt _ hsz
   rw[getElem!_pos zv.cells _ hlt];simp[hlt]
 have hrun:(Instr.buildSlice t n vs.toArray).run P w=.ok (.slice (some ⟨w.heap.size,0,none⟩) n n) (w.alloc (.cells D.toArray elem)):=by
  have hnb:¬(n*i.size>2^24):=by rw[hw] at hbig;omega
  have hfl':Instr.fill (λj=>some (j*i.size,i.size)) Z.toArray vs=some D.toArray:=by rw[<-hw];exact hfl
  have hZ1:=hZa #[];by_cases h0:n*i.size=0
  ·have e1:=hZa #[] (.inl h0);simp only[h0] at e1;simp at e1;simp[Instr.buildSlice,run_underlying hu,sizeOf,typeInfo,hi,h0,newRow];rw[e1,hfl'];rfl
  ·have e1:=hZa zv.cells (.inr rfl);simp[Instr.buildSlice,run_underlying hu,sizeOf,typeInfo,hi,hnb,h0,newRow,hzr w];rw[e1,hfl'];rfl
 obtain⟨q1,q2⟩:=ZiI r.wid n l rows hrows;have hl0:l.length=n*r.wid:=by rw[ZxL _ _ _ _ hfill,Zhm,hzlen,hw]
 obtain⟨q3,q4⟩:=ZkL hxs;have hxl:xs.length=n:=q3.trans q1;have hrow:∀i' j d,i'<xs.length->nth (elN r xs i') j=some d->∃u,D[i'*r.wid+j]? =some u/\RA x.bare d u:=by
  intro i' j d hi' hd;obtain⟨y,hy⟩:=ZcT (l:=rows) (n:=i') (by rw[q1];omega);obtain⟨xv,e1,e2⟩:=q4 i' y hy;obtain⟨e3,e4⟩:=q2 i' y hy;have hy2:RL x y ((D.drop (i'*r.wid)).take r.wid):=by rw[e3];exact (hD.drop _).take _
  have hen:=R.decW_ok e2 hy2;have hel':elN r xs i'=r.enc xv:=by simp[elN,Yl,e1]
  have hj:=ZjD hd;rw[hel'] at hd;obtain⟨u,f1,f2⟩:=hen.nth j d hd;refine⟨u,?_,f2.plain (λb o v e=>e) (R.enc_plain _ _ _ (Zbd hd))⟩;rw[YI,YX hj,YN] at f1;exact f1
 have hnm:xs.length<=maxLen:=by rw[hxl];have:n*1<=n*r.wid:=YaR _ (by omega);simp only[maxLen];omega
 have hDl:D.length=n*r.wid:=by rw[<-hD.length,hl0]
 obtain⟨m1,m2⟩:=hm.addS (s:={blk:=some (w.heap.size,n),na:=none,n:=n,w:=r.wid,ver:=0,fc:=0}) (g:={r:=r,T:=elem,l:=xs,ver:=0,fzn:=false,ffz:=false,lit:=true,ub:=n+1}) (ZI.alloc w (.cells D.toArray elem)) (λp' c' e=>by simp at e;omega)
  (by
   refine⟨rfl,hxl.symm,rfl,λe=>by simp at e,λp' c' e=> ?_,λ_=>rfl,λe=>by simp at e,λ_=>by simp[hxl]⟩;simp only[oinj,pinj] at e;obtain⟨rfl,rfl⟩:=e
   exact⟨D,heap_alloc_new w _,hDl,Ye _,by rw[<-hxl];exact hnm,λi' j d hi' hd=>hrow i' j d (by rw[hxl];exact hi') hd,Yr _,λo ho=>by simp at ho,λo _=>hm.fz_new (Ye _) o⟩)
 refine⟨_,_,_,hrun,?_,m1,m2,(ZI.alloc w _).step hm rfl rfl rfl⟩;have hsl:=hm.sl;refine .tip _ _ _ {blk:=some (w.heap.size,n),na:=none,n:=n,w:=r.wid,ver:=0,fc:=0} _ (by rw[Zad,<-hsl,Zi];simp) (Yr _) (λ_=> ?_) trivial;simp[tipVal]
theorem ZJM {α:Type} (x:α):∀n,(rep x n).length=n
 |0=>rfl
 |n+1=>by simp[rep,ZJM x n]
theorem ZCY {α:Type} (x d:α):∀(n i:Nat),i<n->(rep x n).getD i d=x
 |0,i,h=>by omega
 |n+1,0,_=>rfl
 |n+1,i+1,h=>by simpa [rep] using ZCY x d n i (by omega)
theorem Zuj {x:Ctx} (hm:MK x s.mem w) {la ca:A} {vl vc:Value} (hl:RA x la vl) (hc':RA x ca vc) (h:Zfs P s t la ca=some res) (hc:res.chk≠some false):
  res.bd=s.bd/\res.sd=s.sd/\∃v w' x',(Instr.makeSlice t vl vc).run P w=.ok v w'/\RV x' res.v v/\MK x' res.m w'/\Ext x x'/\Step x w w':=by
 unfold Zfs at h;split at h
 case h_2=>simp at h
 rename_i elem ll lk l lc ck c hu;obtain⟨rfl,_⟩:=ZcM hl;obtain⟨rfl,_⟩:=ZcM hc';split at h
 case h_2=>simp at h
 rename_i r zl hel hzl;obtain⟨i,z,hi,hz,hzs,hsz,hby,hw⟩:=ZhC hel;split at h
 case h_2=>simp at h
 rename_i x0 hx0;split at h
 case h_2=>simp at h
 rename_i chk hchk;simp only[Zjg,oinj] at h;subst h;have hb:=Zky hchk hc;simp only[Yb,Yf] at hb;obtain⟨⟨h0,h1⟩,h2⟩:=hb;have h2:c<=1073741824:=h2;obtain⟨zv,hzr,hzl'⟩:=Zeb (P:=P) (x:=x) hzl;have hzv:zv=z:=by have:=hzr w;simp[zeroValue,typeInfo,hi,hz] at this;exact this.symm
 subst hzv;have hen:=R.decW_ok hx0 hzl'
 have hr:=run_make (P:=P) w t elem i zv hu hi hz lk ck l c h0 h1 (by
  have:(i.bytes:Int)*c<=65536*1073741824:=Int.mul_le_mul (by omega) (by omega) (by omega) (by omega)
  omega) (by omega)
 have hCl:(madeCells zv.cells (c.toNat*i.size)).toList.length=c.toNat*r.wid:=by rw[Array.length_toList,size_madeCells,hw]
 obtain⟨m1,m2⟩:=hm.addS (s:={blk:=some (w.heap.size,c.toNat),na:=none,n:=l.toNat,w:=r.wid,ver:=0,fc:=0}) (g:={r:=r,T:=elem,l:=rep x0 l.toNat,ver:=0,fzn:=false,ffz:=false,lit:=ll,ub:=0}) (ZI.alloc w (.cells (madeCells zv.cells (c.toNat*i.size)) elem)) (λp' c' e=>by simp at e;omega)
  (by
   refine⟨rfl,by simp[ZJM],rfl,λe=>by simp at e,λp' c' e=> ?_,λ_=>rfl,λe=>by simp at e,λe=>by simp at e⟩;simp only[oinj,pinj] at e;obtain⟨rfl,rfl⟩:=e;refine⟨(madeCells zv.cells (c.toNat*i.size)).toList,heap_alloc_new w _,hCl,(show l.toNat<=c.toNat by omega),by simp only[maxLen];omega,λi' j d hi' hd=> ?_,Yr _,λo ho=>by simp at ho,λo _=>hm.fz_new (Ye _) o⟩;have hi':i'<l.toNat:=hi';have hj:j<r.wid:=ZjD hd;have hel':elN r (rep x0 l.toNat) i'=r.enc x0:=by simp only[elN];rw[ZCY _ _ _ _ hi']
   rw[hel'] at hd;obtain⟨u,e1,e2⟩:=hen.nth j d hd;refine⟨u,?_,e2.plain (λ_ _ _ e=>e) (R.enc_plain _ _ _ (Zbd hd))⟩;have hlt:i'*r.wid+j<c.toNat*i.size:=by have h3:(i'+1)*r.wid<=c.toNat*r.wid:=YS _ (by omega);rw[YaM] at h3;rw[hw] at*;omega
   simp only[madeCells,YaF,Array.toList_range,Yas,YaH hlt,Option.map_some];have hj':j<zv.cells.size:=by rw[hzs,<-hw];exact hj
   have hmod:(i'*r.wid+j)%zv.cells.size=j:=by rw[hzs,<-hw,Nat.mul_comm,Nat.mul_add_mod,Ya2 hj]
   rw[hmod,getElem!_pos zv.cells _ hj']
   simpa [hj'] using e1)
 refine⟨rfl,rfl,_,_,_,hr,?_,m1,m2,(ZI.alloc w _).step hm rfl rfl rfl⟩;have hsl:=hm.sl;refine .tip _ _ _ {blk:=some (w.heap.size,c.toNat),na:=none,n:=l.toNat,w:=r.wid,ver:=0,fc:=0} _ (by rw[Zad,<-hsl,Zi];simp) (Yr _) (λ_=> ?_) trivial;simp[tipVal]
theorem ZWI {x:Ctx} (hm:MemR x s.mem w) {ty:TypeId} {v:V} {vv:Value} (hv:RV x v vv) (h:lenA P s t v=some res) (hc:res.chk≠some false):
  res.m=s.mem/\res.bd=s.bd/\res.sd=s.sd/\∃u,(∀w',(Builtin.len_ #[t] ty #[vv]).run P w'=.ok u w')/\RV x res.v u:=by
 have fin:∀(lit:Bool) (n:Nat) (u:Value),n<=maxLen->u=goInt n->RV x (.w (.one (.int lit .i64 (n:Int)))) u:=by intro lit n u hn hu;obtain⟨e1,e2⟩:=ZWQ hn;rw[hu,e2];exact .int _ _ _ _ e1
 unfold lenA at h;split at h
 ·rename_i e hu;simp only[Zbo,oinj] at h;subst h;have hv:RA x .nilsl vv:=hv;cases hv;exact⟨rfl,rfl,rfl,_,λw'=>ZrY (P:=P) (w:=w') (ty:=ty) hu none 0 0,fin true 0 _ (Yr _) rfl⟩
 ·rename_i e r lit _ _ l hu;simp only[Zbo,oinj] at h;subst h;obtain⟨a,cap,news,rfl,SX,_⟩:=ZrP hm (show RA x (.lst _ _ _ _ l) vv from hv);exact⟨rfl,rfl,rfl,_,λw'=>ZrY (P:=P) (w:=w') (ty:=ty) hu a l.length cap,fin lit l.length _ SX.hml rfl⟩
 ·rename_i e hh ver hu;split at h
  case h_2=>simp at h
  rename_i g hg;simp only[Zbo,oinj] at h;subst h;obtain⟨si,hs,hok,rfl⟩:=Zf8 hm (show RA x (.tip hh ver) vv from hv) hg;obtain⟨a,cap,news,e1,SX,_⟩:=ZrN hok;rw[e1];exact⟨rfl,rfl,rfl,_,λw'=>ZrY (P:=P) (w:=w') (ty:=ty) hu a g.l.length cap,fin g.lit g.l.length _ SX.hml rfl⟩
 ·rename_i n e hu;split at h
  case h_2=>simp at h
  rename_i hn;simp only[Yy,most] at hn;simp only[Zbo,oinj] at h;subst h;exact⟨rfl,rfl,rfl,_,λw'=>ZrX (P:=P) (w:=w') (ty:=ty) hu vv,fin true n _ (by simp only[maxLen];omega) rfl⟩
 ·rename_i b hu;simp only[ofSt,oinj] at h;subst h;have hv:RA x (.str b) vv:=hv;cases hv;have hb:(b.size:Int)<=i64.max:=by
   refine Decidable.byContradiction λe=>hc ?_
   simp only[YR e]
  exact⟨rfl,rfl,rfl,_,λw'=>run_len_string (P:=P) w' t ty b hu,.int _ _ _ _ ⟨by show (-9223372036854775808:Int)<=_;omega,hb⟩⟩
 ·simp at h
theorem ZCd {x:Ctx} (hm:MemR x s.mem w) {src dst:TypeId} {xa:A} {vx:Value} (hx:RA x xa vx) (h:ZjJ P s src dst xa=some res):
  res.m=s.mem/\res.bd=s.bd/\res.sd=s.sd/\∃v,(convert src dst vx).run P w=.ok v w/\RV x res.v v:=by
 unfold ZjJ at h;split at h
 ·rename_i k1 k hs hd;split at h
  case h_2=>simp at h
  rename_i l k2 n;simp only[Zbo,oinj] at h;subst h;obtain⟨rfl,_⟩:=ZcM hx;exact⟨rfl,rfl,rfl,.int k (k.wrap n),by simp[convert,run_underlying hs,run_underlying hd,Conv.intToInt],.int _ _ _ _ (Zaq _ _)⟩
 ·rename_i e hs hd;split at h
  case h_2=>simp at h
  rename_i he;split at h
  case h_2=>simp at h
  rename_i q hq;simp only[Zbo,oinj] at h;subst h;obtain⟨a,cap,news,rfl,SX⟩:=ZrL hm hx hq;refine⟨rfl,rfl,rfl,?_⟩;have hql:List Int:=q.l;have hnews:news=List.map (Value.int .u8) q.l:=by
   apply List.ext_getElem?;intro j;have hlen:news.length=q.l.length:=by rw[SX.hlen];simp[R.wid]
   by_cases hj:j<q.l.length
   ·obtain⟨u,e1,e2⟩:=SX.hrow j 0 (.int false .u8 (q.l.getD j (0:Int))) hj rfl;simp only[R.wid,Nat.mul_one,Nat.add_zero] at e1;rw[e1,(ZcM e2).1];simp[Yl,hj]
   ·rw[Y0 (by omega),Y0 (by simp;omega)]
  refine⟨.string (Zyy q.l),?_,.str _ _⟩;rw[run_convert_bytes_string w src dst e a q.l.length cap hs he hd];cases a with
  |none=>
   have:=SX.hnone rfl;rw[this];rfl
  |some p=>
   refine run_bytesToString w p q.l.length cap q.l ?_;rw[<-hnews];have:=run_loadCells_list (P:=P) (w:=w) p news (SX.hcell p rfl);rw[SX.hlen] at this;simpa [R.wid] using this
 ·simp at h
theorem ZJp {x:Ctx} {m:Mem} (hm:MK x m w) {h i o:Nat} {g:Stg} {si:SI} {p cap:Nat} (hg:nth m.Sg h=some g) (hs:nth x.S h=some si) (hb:si.blk=some (p,cap)) (hfz:g.fzn=false) (hi:i<g.l.length)
  {row l:List A} {vs:List Value} {y:g.r.den} (hput:putN (elN g.r g.l i) o l=some row) (hdec:g.r.decW row=some y) (hl:RL x l vs) (hne:l≠[]):
  ∃C:List Value,w.heap[p]? =some (.cells C.toArray g.T (0,0))/\i*g.r.wid+o+vs.length<=C.length/\
   MK x {m with Sg:=setN m.Sg h {g with l:=g.l.set i y}} (w.setRow p (C.take (i*g.r.wid+o)++vs++C.drop (i*g.r.wid+o+vs.length)).toArray)/\
   Step x w (w.setRow p (C.take (i*g.r.wid+o)++vs++C.drop (i*g.r.wid+o+vs.length)).toArray):=by
 have hok:=hm.stg h g si hg hs;obtain⟨C,c1,c2,c3,c4,c5,c6,c7,c8⟩:=hok.row p cap hb;obtain⟨e1,e2⟩:=Zi0 hput;have hlen:=hl.length;have hin:=e2 hne;rw[elN,R.enc_len] at hin;have hown:=hm.sown h si p cap hs hb;have hn:=hok.n;have hbig:(i+1)*g.r.wid<=C.length:=by rw[c2];exact YS _ (by omega)
 rw[YaM,Nat.one_mul] at hbig;refine⟨C,c1,by omega,?_,⟨rfl,rfl,rfl,by simp,λk hk=>setRow_other w p k _ (λe=>hk (e▸hown.1))⟩⟩;have hrow:=setRow_heap w p C.toArray (C.take (i*g.r.wid+o)++vs++C.drop (i*g.r.wid+o+vs.length)).toArray g.T (0,0) c1;obtain⟨m1,m2⟩:=hm.setS (w':=w.setRow p (C.take (i*g.r.wid+o)++vs++C.drop (i*g.r.wid+o+vs.length)).toArray) (g':={g with l:=g.l.set i y}) (s':=si) (fz':=x.fz) hg hs (.refl si) (by simp)
  (λk hk hne'=>setRow_other w p k _ (λe=>hne' cap (e▸hb))) (λ_ _ _ e=>e) (λ_ _ _ _=>rfl)
  (λb' o' v' e=>by
   have hbe:b'≠p:=by rintro rfl;rw[hm.nofz hg hs hb hfz o'] at e;simp at e
   rw[World.cell?_of_block (w:=w) (a:=⟨b',o',none⟩) (setRow_other w p b' _ hbe)]
   exact hm.fz b' o' v' e) (λp' c' e=>.inl ⟨c',e⟩)
  (by
   refine⟨hok.ver,by simp[hn],hok.wd,hok.nil,λp' c' e=> ?_,hok.fzn,hok.ffz,by simpa [setI] using hok.ub⟩;rw[hb] at e;simp only[oinj,pinj] at e;obtain⟨rfl,rfl⟩:=e;have hfc:si.fc=0:=hok.fzn hfz;refine⟨_,hrow,?_,c3,c4,?_,by rw[hfc];exact Yr _,λo' ho=>by rw[hfc] at ho;simp at ho,c8⟩
   ·simp only[Yd,YH,YO];rw[<-c2];omega
   ·intro i' j d hi' hd;have hj:j<g.r.wid:=ZjD hd;show ∃v,(C.take (i*g.r.wid+o)++vs++C.drop (i*g.r.wid+o+vs.length))[i'*g.r.wid+j]? =some v/\_;have hout:∀k,(k<i*g.r.wid+o\/i*g.r.wid+o+vs.length<=k)->(C.take (i*g.r.wid+o)++vs++C.drop (i*g.r.wid+o+vs.length))[k]? =C[k]? :=by
     intro k hk;rcases hk with hk|hk
     ·rw[Yo,Yp (by simp;omega),YI,YX hk]
     ·rw[YT (by simp;omega),YN];congr 1;simp;omega
    by_cases hii:i'=i
    ·subst hii;have hel:elN g.r (g.l.set i' y) i'=g.r.enc y:=by simp[elN,Yl,hi]
     have hd:nth (elN g.r (g.l.set i' y) i') j=some d:=hd;rw[hel] at hd;have hR0:RL x.bare (elN g.r g.l i') ((C.drop (i'*g.r.wid)).take g.r.wid):=by
      refine RL.of_nth (by rw[elN,R.enc_len];simp;omega) λk b hb'=> ?_
      obtain⟨u,f1,f2⟩:=c5 i' k b (by rw[hn];exact hi) hb';exact⟨u,by rw[YI,YX (ZjD hb'),YN];exact f1,f2⟩
     have hR1:RL x (elN g.r g.l i') ((C.drop (i'*g.r.wid)).take g.r.wid):=RL.plain (x:=x.bare) (x':=x) (λb o v (e:x.fz b o=some v)=>e) (R.enc_plain _ _) hR0;have hR2:RL x row (((C.drop (i'*g.r.wid)).take g.r.wid).take o++vs++((C.drop (i'*g.r.wid)).take g.r.wid).drop (o+vs.length)):=by rw[e1,hlen];exact ((hR1.take o).append hl).append (hR1.drop _)
     obtain⟨u,f1,f2⟩:=(R.decW_ok hdec hR2).nth j d hd;refine⟨u,?_,f2.plain (λ_ _ _ e=>e) (R.enc_plain _ _ _ (Zbd hd))⟩;rw[<-f1];have hL1:(((C.drop (i'*g.r.wid)).take g.r.wid).take o).length=o:=by simp;omega
     rcases Yae j o with h1|h1
     ·rw[hout _ (.inl (by omega)),Yo,Yp (by rw[hL1];exact h1),YI,YX h1,YI,YX hj,YN]
     ·rcases Yae j (o+vs.length) with h2|h2
      ·rw[Yo,YT (by simp;omega),Yp (by simp;omega)];rw[Yo,YT (by rw[hL1];exact h1),Yp (by rw[hL1];omega)];congr 1;simp;omega
      ·rw[hout _ (.inr (by omega))];rw[YT (by rw[Yd,hL1];exact h2),YN,Yd,hL1,YI,YX (by omega),YN];congr 1;omega
    ·have hel:elN g.r (g.l.set i y) i'=elN g.r g.l i':=by simp only[elN,Yl];rw[Yao (YaO hii)]
     have hd:nth (elN g.r (g.l.set i y) i') j=some d:=hd;rw[hel] at hd;obtain⟨u,f1,f2⟩:=c5 i' j d hi' hd;refine⟨u,?_,f2.plain (λ_ _ _ e=>e) (R.enc_plain _ _ _ (Zbd hd))⟩;rw[hout]
     ·exact f1
     ·rcases Yae i' i with h1|h1
      ·left;have:(i'+1)*g.r.wid<=i*g.r.wid:=YS _ h1;rw[YaM] at this;omega
      ·right;have:(i+1)*g.r.wid<=i'*g.r.wid:=YS _ (by omega)
       rw[YaM] at this;omega)
 have hxx:({x with S:=setN x.S h si,fz:=x.fz}:Ctx)=x:=by have:=ZJq hs;rw[this]
 rw[hxx] at m1;exact m1
end Go.S3
namespace Go.S3
def ZPi (P:Program) (x:Ctx) (a:Act) (o:Oper) (w:World) (r:Res):Prop:=
 ∃v w' x',ZZs P a o w v w'/\RV x' r.v v/\MK x' r.m w'/\Ext x x'/\Step x w w'
def ZH9 (P:Program) (x:Ctx) (m0:Mem) (s:St) (a:Act) (o:Oper) (w:World) (r:Res):Prop:=
 r.m=s.mem/\r.bd=s.bd/\r.sd=s.sd/\∃v w' x',(execOp a.eval o).run P w=.ok (.value v) w'/\RV x' r.v v/\MK x' m0 w'/\Ext x x'/\Zb5 w w'
variable {s:St} {a:Act} {o:Oper} {w:World} {r:Res}
theorem ZH9.sound {P:Program} {x:Ctx} (hm:MK x s.mem w) (h:ZH9 P x s.mem s a o w r):ZPi P x a o w r:=by obtain⟨h1,_,_,v,w',x',hr,hv,hm',he,hw⟩:=h;exact⟨v,w',x',.inl hr,hv,h1▸hm',he,hw.step hm⟩
variable {m0:Mem}
theorem ZH9.of {P:Program} {x:Ctx} (hm:MK x m0 w) (h1:r.m=s.mem) (h2:r.bd=s.bd) (h3:r.sd=s.sd) {v:Value}
  (hr:(execOp a.eval o).run P w=.ok (.value v) w) (hv:RV x r.v v):ZH9 P x m0 s a o w r:=
 ⟨h1,h2,h3,v,w,x,hr,hv,hm,Ext.refl x,Zb5.refl w⟩
variable {l:List A}
theorem Zk4 {P:Program} {x:Ctx} (hm:MK x s.mem w) {C:List Value} {T:TypeId} (hl:RL x l C)
  (h:(execOp a.eval o).run P w=.ok (.value (.pointer (some ⟨w.heap.size,0,none⟩))) (w.alloc (.cells C.toArray T))):ZPi P x a o w (Zep s l):=by obtain⟨h1,h2,h3⟩:=Zjh hm T hl;exact⟨_,_,_,.inl h,h3,h1,ZuD x _,h2⟩
def Zuz:Op->Bool
 | .alloc _| .box .. | .store .. | .makeSlice .. | .call _=>false
 |_=>true
theorem ZwS (s:St) (a:Act) (l:List (Nat×Operand)):(Zem s l).length=(l.map λp=>(p.1,a.eval p.2)).length:=by have:=congrArg List.length (Zfo s l);simpa using this
theorem Zx7 {x:Ctx}:∀{vs:List V} {l:List A} {args:List Value},Zli vs=some l->RVs x vs args->RL x l args
 |[],l,args,h,hv=>by
  simp only[Zli,oinj] at h;subst h;cases args with
  |nil=>trivial
  |cons _ _=>exact hv.elim
 | .w (.one a)::vs,l,v::args,h,hv=>by
  simp only[Zli] at h;split at h
  ·rename_i r hr;simp only[oinj] at h;subst h;exact⟨hv.1,Zx7 hr hv.2⟩
  ·simp at h
 | .w (.agg _)::_,_,_,h,_=>by simp[Zli] at h
 | .w .junk::_,_,_,h,_=>by simp[Zli] at h
 | .tup _::_,_,_,h,_=>by simp[Zli] at h
 | .w (.one _)::_,_,[],_,hv=>hv.elim
theorem ZOV {x:Ctx} {f:FuncId} {cs:List Value} (h:RL x l cs):RA x (.clo f l) (.func (.func f) #[] cs.toArray):=by
 refine .clo x f l cs (λj=>(cs[j]?).getD undef) (by rw[Zad,Zad,h.length]) (λj a ha=> ?_) (λj a ha=> ?_)
 ·obtain⟨v,e,_⟩:=h.nth j a ha;rw[Zi,e];rfl
 ·obtain⟨v,e,hr⟩:=h.nth j a ha;rw[e];exact hr
theorem Zra {x:Ctx} {s:St} {w:World} (hm:MemR x s.mem w):∀{l:List (Nat×Operand)} {ps:List (Nat×Option (List A))} {s':St},
  (l.all λp=>match opd s p.2 with|some v=>Zco s.mem v|none=>false)=true->ZbD s (Zem s l)=some (ps,s')->
  s'=s/\(∀vs,PsOk x (Zem s l) vs->PsOk x ps vs)/\ps.map (·.1)=(Zem s l).map (·.1)
 |[],ps,s',_,h=>by simp only[Zem,ZbD,oinj,pinj] at h;obtain⟨rfl,rfl⟩:=h;exact⟨rfl,λvs hv=>hv,rfl⟩
 |(i,y)::l,ps,s',hf,h=>by
  simp only[List.all_cons,Yb] at hf;simp only[Zem] at h;have hy:=hf.1;cases hv:opd s y with
  |none=>rw[hv] at hy;simp at hy
  |some v=>
   rw[hv] at hy;simp only at hy;simp only[opdC,hv,Option.bind_some] at h;cases hc:v.cells with
   |none=>rw[hc] at h;simp[ZbD] at h
   |some c=>
    rw[hc] at h;simp only[ZbD] at h;split at h
    ·rename_i c' s1 h1;have hfc:c.all (Zdh s.mem)=true:=by
      cases v with
      |w y'=>
       cases y' with
       |one b=>simp only[V.cells,W.cells,oinj] at hc;subst hc;simpa [Zco] using hy
       |agg q=>simp only[V.cells,W.cells,oinj] at hc;subst hc;exact hy
       |junk=>simp[V.cells,W.cells] at hc
      |tup _=>simp[V.cells] at hc
     obtain⟨rfl,q1⟩:=ZkE (x:=x) hm hfc h1;split at h
     ·rename_i r' s2 h2;simp only[oinj,pinj] at h;obtain⟨rfl,rfl⟩:=h;obtain⟨rfl,q2,q3⟩:=Zra hm hf.2 h2;refine⟨rfl,λvs hvs=> ?_,by simp only[Zem,YaZ,q3]⟩;cases vs with
      |nil=>intro j d u _ e;simp[Zn] at e
      |cons v0 vs=>
       intro j d u e1 e2 k e3;cases j with
       |zero=>
        simp only[nth,oinj] at e1 e2;subst e1;subst e2;simp only[oinj] at e3;subst e3;exact q1 _ (hvs 0 (i,some c) v0 (by simp[Zem,nth,opdC,hv,hc]) rfl c rfl)
       |succ j=>exact q2 vs (λj d u e1 e2=>hvs (j+1) d u (by simpa [Zem,nth] using e1) (by simpa [nth] using e2)) j d u e1 e2 k e3
     ·simp at h
    ·simp at h
variable {E:Env} {op:Op}
set_option maxHeartbeats 2000000 in
theorem ZxM {x:Ctx} (hf:RF x s.Sl a.tmps) (hr:MemR x s.mem w) (hm:MK x m0 w) (ho:o.op=op) (hst:Zuz op=true)
  (hz:Zfy E s op=true) (h:evOp E s op=some r) (hc:r.chk≠some false):ZH9 E.P x m0 s a o w r:=by
 have hcut:∀c,Cut (len s.mem.Bx) tip1 c x x:=λc=>Cut.refl _ c x
 unfold evOp at h;split at h
 ·--move
  rename_i y;split at h
  ·rename_i v hv;simp only[valR,oinj] at h;subst h;exact .of hm rfl rfl rfl (by simp[execOp,ho]) (Zdz hf hv)
  ·simp at h
 ·--assign
  rename_i y;split at h
  ·rename_i v hv;simp only[valR,oinj] at h;subst h;exact .of hm rfl rfl rfl (by simp[execOp,ho]) (Zdz hf hv)
  ·simp at h
 ·--pick
  rename_i c p q;split at h
  ·rename_i b hb;have hcb:=Zc0 (Zak hf hb);cases b with
   |true=>
    simp only at h;split at h
    ·rename_i v hv;simp only[valR,oinj] at h;subst h;exact .of hm rfl rfl rfl (by simp[execOp,ho,hcb,asBool]) (Zdz hf hv)
    ·simp at h
   |false=>
    simp only at h;split at h
    ·rename_i v hv;simp only[valR,oinj] at h;subst h;exact .of hm rfl rfl rfl (by simp[execOp,ho,hcb,asBool]) (Zdz hf hv)
    ·simp at h
  ·rename_i b hb;have hcb:=Zc0 (Zak hf hb);split at h
   ·rename_i y y' hy hy';split at h
    ·rename_i z hz';simp only[valR,oinj] at h;subst h;refine .of (v:=if b then a.eval p else a.eval q) hm rfl rfl rfl (by simp[execOp,ho,hcb,asBool]) ?_;refine ZYO (hcut b) hz' ?_;cases b
     ·exact Zdz hf hy'
     ·exact Zdz hf hy
    ·simp at h
   ·simp at h
  ·simp at h
 ·simp[Zuz] at hst
 ·simp[Zuz] at hst
 ·--build
  rename_i t parts;split at h
  ·rename_i z pl hz' hpl;split at h
   ·rename_i l hl;simp only[valR,oinj] at h;subst h;obtain⟨v,h1,h2⟩:=ZSx (P:=E.P) hf hz' hpl hl;exact .of hm rfl rfl rfl (by simp[execOp,ho,h1 w]) h2
   ·simp at h
  ·simp at h
 ·--load
  rename_i t p;split at h
  ·rename_i pa hp;split at h
   ·rename_i y hy;simp only[valR,oinj] at h;subst h;obtain⟨u,h1,h2⟩:=ZEO hr (Zak hf hp) hy;exact .of hm rfl rfl rfl (by simp[execOp,ho,h1 w (ZI.refl w)]) h2
   ·simp at h
  ·simp at h
 ·simp[Zuz] at hst
 ·--nilCheck
  rename_i y;split at h
  ·rename_i b off hy;simp only[Zbo,oinj] at h;subst h;have hv:=Zak hf hy;refine .of (v:=a.eval y) hm rfl rfl rfl ?_ hv;generalize hev:a.eval y=pv at*;cases hv with
   |loc _ _ _ q hq=>simp[execOp,ho,hev]
  ·rename_i l hy;simp only[Zbo,oinj] at h;subst h;have hv:=Zak hf hy;refine .of (v:=a.eval y) hm rfl rfl rfl ?_ hv;generalize hev:a.eval y=pv at*;cases hv with
   |fp _ _ q o c hf' hr=>simp[execOp,ho,hev]
  ·rename_i hh ver i off hy;split at h
   ·rename_i g hg;simp only[Zbo,oinj] at h;subst h;have hv:=Zak hf hy;refine .of (v:=a.eval y) hm rfl rfl rfl ?_ hv;obtain⟨_,_,_,_,_,_,_,_,e⟩:=ZPV hr hv hg;simp[execOp,ho,e]
   ·simp at h
  ·simp at h
 ·--binOp
  rename_i op t y y' yt;split at h
  ·rename_i p q hp hq;split at h
   ·rename_i c z hz';simp only[oinj] at h;subst h;obtain⟨v,h1,h2⟩:=ZXj y y' (Zdz hf hp) (Zdz hf hq) hz' hc;refine .of (v:=v) hm rfl rfl rfl ?_ h2;have h3:=h1 w;simp only[execOp,ho,Sem.run_bind,Sem.run_pure] at h3|-;rw[h3];rfl
   ·simp at h
  ·rename_i p q hp hq;obtain⟨C,e1,e2⟩:=Zdz hf hp;obtain⟨D,e3,e4⟩:=Zdz hf hq;split at h
   ·split at h
    ·rename_i e he;simp only[Zbo,oinj] at h;subst h;refine .of (v:=.bool e) hm rfl rfl rfl ?_ (.bool _ _ _);obtain⟨h1,h2⟩:=ZOl (w:=w) he e2 e4;simp only[execOp,ho,e1,e3,Sem.run_bind,h2 .eql y y',Result.andThen_ok,binOp,h1,Sem.run_pure]
    ·simp at h
   ·split at h
    ·rename_i e he;simp only[Zbo,oinj] at h;subst h;refine .of (v:=.bool (!e)) hm rfl rfl rfl ?_ (.bool _ _ _);obtain⟨h1,h2⟩:=ZOl (w:=w) he e2 e4;simp only[execOp,ho,e1,e3,Sem.run_bind,h2 .neq y y',Result.andThen_ok,binOp,h1,Sem.run_pure]
    ·simp at h
   ·simp at h
  ·simp at h
 ·--unOp
  rename_i op t y;split at h
  ·rename_i p hp;rw[Yar] at h;obtain⟨z,hz',h⟩:=h;simp only[Zbo,oinj] at h;subst h;obtain⟨v,h1,h2⟩:=ZXy (P:=E.P) (Zak hf hp) hz';exact .of hm rfl rfl rfl (by simp[execOp,ho,h1 w]) h2
  ·simp at h
 ·--convert
  rename_i src dst y;split at h
  ·rename_i p hp;obtain⟨e1,e2,e3,v,h1,h2⟩:=ZCd hr (Zak hf hp) h;exact .of hm e1 e2 e3 (by simp[execOp,ho,h1]) h2
  ·simp at h
 ·--fieldAddr
  rename_i t y f;split at h
  ·rename_i p fd hp hfd;split at h
   ·rename_i n hn;rw[Yar] at h;obtain⟨z,hz',h⟩:=h;simp only[Zbo,oinj] at h;subst h;obtain⟨fs,hu,hfs⟩:=Zld hfd;obtain⟨q,off,e1,e2⟩:=ZRz hr (Zak hf hp) hz';refine .of (v:=.pointer (some ⟨q,off+fd.offset,none⟩)) hm rfl rfl rfl ?_ e2;simp[execOp,ho,e1,Instr.fieldAt,run_underlying hu,hfs,Instr.sureAddr,fieldPlace,ZbT hn,Zd3]
   ·simp at h
  ·simp at h
 ·--field
  rename_i t y f;split at h
  ·rename_i l fd hp hfd;split at h
   ·rename_i z hz';simp only[valR,oinj] at h;subst h;obtain⟨fs,hu,hfs⟩:=Zld hfd;obtain⟨C,e1,e2⟩:=Zdz hf hp;obtain⟨v,h1,h2⟩:=ZQG (P:=E.P) hz' e2;exact .of hm rfl rfl rfl (by simp[execOp,ho,e1,Instr.field,run_underlying hu,hfs,asAgg,h1]) h2
   ·simp at h
  ·simp at h
 ·--index
  rename_i t y i;split at h
  ·rename_i l ia hp hi;obtain⟨e1,e1',e1'',v,e2,e3⟩:=ZNU (Zdz hf hp) (Zak hf hi) h hc;exact .of hm e1 e1' e1'' (by simp[execOp,ho,e2]) e3
  ·rename_i b ia hp hi;obtain⟨e1,e1',e1'',v,e2,e3⟩:=ZNT (Zdz hf hp) (Zak hf hi) h hc;exact .of hm e1 e1' e1'' (by simp[execOp,ho,e2]) e3
  ·simp at h
 ·--extract
  rename_i y i;split at h
  ·rename_i l hp;split at h
   ·rename_i z hz';simp only[valR,oinj] at h;subst h;obtain⟨C,e1,e2⟩:=Zdz hf hp;obtain⟨v,h1,h2⟩:=RWs.nth e2 _ _ hz';exact .of hm rfl rfl rfl (by simp[execOp,ho,e1,Instr.extract,h1]) h2
   ·simp at h
  ·simp at h
 ·--indexAddr
  rename_i t y i;split at h
  ·rename_i xa ia hp hi;obtain⟨e1,e2,e3,v,h1,h2⟩:=Zjv hr (Zak hf hp) (Zak hf hi) h hc;exact .of hm e1 e2 e3 (by simp[execOp,ho,h1]) h2
  ·simp at h
 ·simp[Zuz] at hst
 ·--slice
  rename_i t y low high max;split at h
  ·rename_i xa hp;have hfr:Zdh s.mem xa=true:=by simp only[Zfy,ZwT hp,Zco] at hz;exact hz
   unfold Zqh at h;split at h
   ·rename_i x' s' hfz;obtain⟨rfl,hv⟩:=ZkF hr hfr hfz;split at h
    ·simp at h
    ·obtain⟨e1,e2,e3,v,h1,h2⟩:=Zvy (a:=a) hf (hv _ (Zak hf hp)) h hc;refine .of (v:=v) hm e1 e2 e3 ?_ h2;have:=h1 w;simp only[execOp,ho,Sem.run_bind,Option.map_map] at this|-;rw[this];rfl
    ·rename_i hnt _;obtain⟨e1,e2,e3,v,h1,h2⟩:=Zvz hf hr (hv _ (Zak hf hp)) (λh v e=>hnt h v e) h hc;refine .of (v:=v) hm e1 e2 e3 ?_ h2;have:=h1 w;simp only[execOp,ho,Sem.run_bind,Option.map_map] at this|-;rw[this];rfl
   ·simp at h
  ·simp at h
 ·--buildSlice
  rename_i t n parts;have hg:ZxC E=false:=by
   cases e:ZxC E with
   |false=>rfl
   |true=>simp[Zfy,e] at hz
  simp only[hg] at h
  have hz:(parts.toList.all λp=>match opd s p.2 with
   |some v=>Zco s.mem v
   |none=>false)=true:=by simp only[Zfy,Yb] at hz;exact hz.2
  unfold ZeE at h;split at h
  ·rename_i ps s' hfz;have hps:PsOk x (Zem s parts.toList) (parts.toList.map λp=>(p.1,a.eval p.2)):=λi c v h1 h2=>ZgL hf parts.toList i c v h1 h2
   obtain⟨rfl,hps',hfst⟩:=Zra hr hz hfz;obtain⟨e1,e2,e3,v,w',x',h1,h2,h3,h4,h5⟩:=Zh0 (P:=E.P) (s:=s') hm (t:=t) (n:=n) (vs:=parts.toList.map λp=>(p.1,a.eval p.2)) (by rw[hfst,Zfo,Ya4];rfl) (hps' _ hps) h;refine⟨e1,e2,e3,v,w',x',?_,h2,h3,h4,h5⟩;have e:(parts.map λp=>(p.1,a.eval p.2))=(parts.toList.map λp=>(p.1,a.eval p.2)).toArray:=by apply YaC;rw[YaF]
   simp only[execOp,ho,e,Sem.run_bind,h1];rfl
  ·simp at h
 ·--makeFunc
  rename_i f first caps
  split at h
  ·rename_i vs hfirst hvs;split at h
   ·rename_i l hl;simp only[Zbo,oinj] at h;subst h;have hcl:=Zx7 hl (Zko hf hvs);refine .of hm rfl rfl rfl ?_ (ZOV (f:=f) hcl);have e1:first= #[]:=by apply YaC;simpa using hfirst
    have e2:caps.map a.eval=(caps.toList.map a.eval).toArray:=by apply YaC;rw[YaF]
    simp[execOp,ho,Instr.makeFunc,e1,e2]
   ·simp at h
  ·simp at h
 ·--sliceToArrayPointer
  rename_i t y;split at h
  ·rename_i xa hp;obtain⟨e1,e2,e3,v,h1,h2⟩:=ZPb (Zak hf hp) h hc;exact .of hm e1 e2 e3 (by simp[execOp,ho,h1]) h2
  ·simp at h
 ·simp at h
theorem ZW1 {x:Ctx} (hR:Rel x s a w) (ho:o.op=op) (h:evOp E s op=some r) (hc:r.chk≠some false):
  ZPi E.P x a o w r:=by
 have hf:=hR.f;have hm:=hR.m;by_cases hst:Zuz op=true/\Zfy E s op=true
 ·exact (ZxM hf hm.toR hm ho hst.1 hst.2 h hc).sound hm
 cases op
 case slice t y low high max=>
  simp only[evOp] at h;split at h
  ·rename_i xa hp;unfold Zqh at h;split at h
   ·rename_i x' s' hfz;obtain⟨x1,m1,e1,r1,k1⟩:=ZkI hm (Zak hf hp) hfz;split at h
    ·simp at h
    ·obtain⟨q1,q2,q3,v,h1,h2⟩:=Zvy (P:=E.P) (a:=a) (by rw[k1.sl];exact hf.mono e1) r1 h hc;refine⟨v,w,x1,.inl ?_,h2,by rw[q1];exact m1,e1,Step.refl x w⟩;have:=h1 w;simp only[execOp,ho,Sem.run_bind,Option.map_map] at this|-;rw[this];rfl
    ·rename_i hnt _;obtain⟨q1,q2,q3,v,h1,h2⟩:=Zvz (a:=a) (by rw[k1.sl];exact hf.mono e1) m1.toR r1 (λh v e=>hnt h v e) h hc;refine⟨v,w,x1,.inl ?_,h2,by rw[q1];exact m1,e1,Step.refl x w⟩;have:=h1 w;simp only[execOp,ho,Sem.run_bind,Option.map_map] at this|-;rw[this];rfl
   ·simp at h
  ·simp at h
 case buildSlice t n parts=>
  simp only[evOp] at h;cases hg:ZxC E with
  |true=>
   simp only[hg] at h;unfold Zf6 at h;split at h
   ·rename_i ps s' hfz;have hps:PsOk x (Zem s parts.toList) (parts.toList.map λp=>(p.1,a.eval p.2)):=λi c v h1 h2=>ZgL hf parts.toList i c v h1 h2
    obtain⟨x1,m1,e1,r1,hfst,k1⟩:=ZkH (ZwS s a parts.toList) hm hps hfz;obtain⟨q2,q3,v,w',x',h1,h2,h3,h4,h5⟩:=ZpY (P:=E.P) (s:=s') m1 (t:=t) (n:=n) (vs:=parts.toList.map λp=>(p.1,a.eval p.2)) (by rw[hfst,Zfo,Ya4];rfl) r1 h;refine⟨v,w',x',.inl ?_,h2,h3,e1.trans h4,(Step.refl x w).trans h5 e1.own⟩;have e:(parts.map λp=>(p.1,a.eval p.2))=(parts.toList.map λp=>(p.1,a.eval p.2)).toArray:=by apply YaC;rw[YaF]
    simp only[execOp,ho,e,Sem.run_bind,h1];rfl
   ·simp at h
  |false=>
  simp only[hg] at h;unfold ZeE at h;split at h
  ·rename_i ps s' hfz;have hps:PsOk x (Zem s parts.toList) (parts.toList.map λp=>(p.1,a.eval p.2)):=λi c v h1 h2=>ZgL hf parts.toList i c v h1 h2
   obtain⟨x1,m1,e1,r1,hfst,k1⟩:=ZkH (ZwS s a parts.toList) hm hps hfz;obtain⟨q1,q2,q3,v,w',x',h1,h2,h3,h4,h5⟩:=Zh0 (P:=E.P) (s:=s') m1 (t:=t) (n:=n) (vs:=parts.toList.map λp=>(p.1,a.eval p.2)) (by rw[hfst,Zfo,Ya4];rfl) r1 h;refine⟨v,w',x',.inl ?_,h2,by rw[q1];exact h3,e1.trans h4,?_⟩
   ·have e:(parts.map λp=>(p.1,a.eval p.2))=(parts.toList.map λp=>(p.1,a.eval p.2)).toArray:=by apply YaC;rw[YaF]
    simp only[execOp,ho,e,Sem.run_bind,h1];rfl
   ·exact h5.step hm
  ·simp at h
 case makeSlice t l c=>
  simp only[evOp] at h;split at h
  ·rename_i la ca hl hcc;obtain⟨_,_,v,w',x',h1,h2,h3,h4,h5⟩:=Zuj hm (Zak hf hl) (Zak hf hcc) h hc;exact⟨v,w',x',.inl (by simp[execOp,ho,h1]),h2,h3,h4,h5⟩
  ·simp at h
 all_goals (try (simp only[Zuz,Zfy,and_self,not_true_eq_false] at hst;done))
 all_goals (simp only[evOp] at h)
 all_goals (try (cases h;done))
 case alloc t=>
  rw[YB] at h;obtain⟨z,hz,rfl⟩:=h;obtain⟨zv,h1,h2⟩:=Zeb (P:=E.P) (x:=x) hz;refine Zk4 hm (T:=t) h2 ?_;simp[execOp,ho,Instr.alloc,h1,newVar,newRow]
 case box t y=>
  rw[YB] at h;obtain⟨l,hl,rfl⟩:=h;refine Zk4 hm (T:=t) (Zua hf hl) ?_;simp[execOp,ho,Instr.box,newVar,newRow]
 case store t p y=>
  split at h
  ·rename_i pa l hp hl;unfold Zvt at h;split at h
   ·simp at h
   ·rename_i n hn;split at h
    ·simp at h
    ·rename_i hbeq;simp only[Yt] at hbeq;split at h
     ·rename_i b off;split at h
      ·simp at h
      ·rename_i c hcb;split at h
       ·simp at h
       ·rename_i c' hput;simp only[oinj] at h;subst h;have hpv:=Zak hf hp;have hlv:=Zua hf hl;have hll:=hlv.length;rw[Zad] at hbeq;generalize hev:a.eval p=pv at*;cases hpv with
        |loc _ _ _ q hq=>
         by_cases hne:l=[]
         ·subst hne;have hc':c'=c:=by simpa [putN] using hput.symm
          subst hc';have hcs:(a.eval y).cells= #[]:=by
           apply YaC;cases hh:(a.eval y).cells.toList with
           |nil=>rfl
           |cons _ _=>rw[hh] at hll;simp at hll
          have hn0:n=0:=by simpa using hbeq
          subst hn0;refine⟨undef,w,x,.inr ⟨?_,rfl⟩,trivial,?_,Ext.refl x,Step.refl x w⟩
          ·simp[execOp,ho,hev,Instr.storeAt,Instr.sureAddr,storeVar,hcs,ZbT hn,storeCells]
          ·have:setN s.mem.Bx b c'=s.mem.Bx:=by rw[ZH];rw[Zi] at hcb;obtain⟨h1,h2⟩:=YE.1 hcb;rw[<-h2];exact List.set_getElem_self h1
           simp only[this];exact hm
         ·obtain⟨C,T,h1,h2,h3,h4⟩:=ZJr hm hcb hq hput hlv hne;refine⟨undef,_,x,.inr ⟨?_,rfl⟩,trivial,h3,Ext.refl x,h4⟩;have hst:=run_storeCells_at E.P q off T (a.eval y).cells.toList 0 C.toArray w h1 (by simpa using h2) (λv hv=>Zdc (hlv.atomic v hv));have hsz:(a.eval y).cells.size=n:=by rw[hbeq,hll];simp
          simp only[Nat.add_zero] at hst;simp[execOp,ho,hev,Instr.storeAt,Instr.sureAddr,storeVar,hsz,ZbT hn];rw[hst];simp[hsz]
     ·--into an element
      rename_i hh ver i off;split at h
      ·simp at h
      ·rename_i g hg;split at h
       ·simp at h
       ·rename_i hfz;split at h
        ·simp at h
        ·rename_i row hput;split at h
         ·simp at h
         ·rename_i yv hdec;simp only[oinj] at h;subst h;have hpv:=Zak hf hp;have hlv:=Zua hf hl;have hll:=hlv.length;rw[Zad] at hbeq;obtain⟨si,q,cap,hs,hok,hb,h0,hi,hev⟩:=ZPV hm.toR hpv hg;obtain⟨hg1,hg2⟩:=ZR hg;have hput:putN (elN g.r g.l i.toNat) off l=some row:=hput;simp only[Yq] at hfz;have hne:l≠[]:=λe=>by rw[e] at hfz;simp[Zut] at hfz
          have hfz:=hfz.1;obtain⟨C,h1,h2,h3,h4⟩:=ZJp hm hg1 hs hb hfz hi hput hdec hlv hne;refine⟨undef,_,x,.inr ⟨?_,rfl⟩,trivial,h3,Ext.refl x,h4⟩;have hst:=run_storeCells_at E.P q (i.toNat*g.r.wid+off) g.T (a.eval y).cells.toList 0 C.toArray w h1 (by simpa using h2) (λv hv=>Zdc (hlv.atomic v hv));have hsz:(a.eval y).cells.size=n:=by rw[hbeq,hll];simp
          simp only[Nat.add_zero] at hst;simp[execOp,ho,hev,Instr.storeAt,Instr.sureAddr,storeVar,hsz,ZbT hn];rw[hst];simp[hsz]
     ·simp at h
  ·simp at h
