import Derived.Test.YtpnjbfjomebppaaGreatBigL
import Derived.Test.YtpnjbfjomebppaaGreatS3Sized
open Go Go.S3 Go.Proofs Go.Proofs.Cells
set_option linter.unusedVariables false
set_option linter.unusedSimpArgs false
set_option maxRecDepth 100000
namespace Go.Proofs.YtpnjbfjomebppaaGreat
noncomputable section
theorem ZRY {g:List GT} (hr:Zlo g) {m:List Cell} (hm:In16 m) (c:TC) (l:List EVTT):ZfU (memX c g m l):=Zwd hr l c _ (Zhg hm)
theorem ZOg (c:TC) (l:List EVTT) (m:List Cell) (n:List Int) (hl:l.length<=most) (hm:In16 m):Zwq c l m n=true/\ZH8 c l m n=true:=by
 have hms:=mst;obtain⟨kc,ke⟩:=Z2g;have hlc:=ZX5 l hl;obtain⟨uc,ug,ur,ul,ui,ue⟩:=Z1n n;obtain⟨r1,r2,r3,r4⟩:=Z0X c l hl;obtain⟨s1,s2⟩:=Z0W (Zdc c l) (by rw[Zx1];exact hl);have hv:(Zkt c l m n).val=some true:=by
  cases hx: !ZL8 l||(decide (iN (List.length m)>40)||decide (iN (List.length n)>250))
  ·have hml:m.length<=40:=by simp only[Yp,Yab,iN,Le] at hx;omega
   obtain⟨m1,m2⟩:=Z0Y c (Z2 n true).1.2.1 m l ug ur hm (by omega) hl;obtain⟨m3,m4⟩:=ZWb c (Z2 n true).1.2.1 m l ug ur hm (by omega) hl;obtain⟨m5,m6⟩:=Z0Y (Zk3 (Z2 n true).1) (Z2 n true).1.2.1 (Z2 n true).1.2.2.2.2.2.2 (Z2 n true).2.2.2.1 ug ur ui (by omega) (by omega);obtain⟨m7,m8⟩:=ZWb (Zk3 (Z2 n true).1) (Z2 n true).1.2.1 (Z2 n true).1.2.2.2.2.2.2 (Z2 n true).2.2.2.1 ug ur ui (by omega) (by omega);have e1:=(ZRY ur hm c l).sm;have e2:=(ZRY ur ui (Zk3 (Z2 n true).1) (Z2 n true).2.2.2.1).sm;simp only[Zkt,RT.val,hx,hlc,kc,ke,uc,r1,r2,r3,r4,s1,s2,m1,m2,m3,m4,m5,m6,m7,m8,e1,e2,ZcN,ZbT,Yg,Ym,Yf,Yt,Yj,YV,YW,YU,decide_true,Ya,Yc]
  ·simp only[Zkt,RT.val,hx,hlc,kc,Yg,Yj,Yf,Ya,Yc]
 exact⟨by simp only[Zwq,hv,okB],by simp only[ZH8,hv,getO]⟩
theorem repl2_hall (a:HL ZlX) (h:okHL ZlX a) (q:a.2.1.length*64<=reachBytes):(some (Zwq a.1 a.2.1 a.2.2.1 a.2.2.2)≠some false)/\ZH8 a.1 a.2.1 a.2.2.1 a.2.2.2=true:=by
 obtain⟨h1,h2⟩:=ZOg a.1 a.2.1 a.2.2.1 a.2.2.2 (by rw[mst];have hr:=reachBytes_lt;omega) (λc hc=>by
  have this:inR .u16 c.1:=(h.2.2.1.2 c hc).1
  rwa [Zfs] at this)
 exact⟨by simp[h1],h2⟩
