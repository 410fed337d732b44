import Derived.Test.YtpnjbfjomebppaaGreatProg
import Derived.Shelf.Spec.SlicesInsertGrow
import Derived.Deep.RegionLaw
import Derived.Lib.SliceRun
import Derived.Test.YtpnjbfjomebppaaGreatS3Rows
open Go.Proofs.Tryz (prog)
open Go.IntKind (u8 u16 i64)
set_option linter.unusedVariables false
set_option linter.unusedSimpArgs false
namespace Go.Proofs.YtpnjbfjomebppaaGreat
open Go Go.S3 Go.Proofs Go.Shelf Go.RowKit Go.Lib
noncomputable section
set_option maxHeartbeats 4000000 in
set_option maxRecDepth 100000 in
theorem ZSp (b n c i vb vc:Nat) (cs:List Value) (u0 u1:Value) (w:World) (hi:i<n) (hroom:n+1<=c) (hc63:c<=9223372036854775807) (hvb:vb≠b) (hcl:cs.length=n*2)
  (hcs:∀j v,cs[j]? =some v->w.cell? ⟨b,j,none⟩=some v) (hsp:∀j,j<(n+1)*2->(w.cell? ⟨b,j,none⟩).isSome=true) (hfz:∀j,j<(n+1)*2->w.frozen? ⟨b,j,none⟩=false)
  (hvs:∀j v,[u0,u1][j]? =some v->w.cell? ⟨vb,j,none⟩=some v) (h1c:∀v∈cs,v.oneCell'=true) (h1v:∀v∈[u0,u1],v.oneCell'=true)
  (tA tB:TypeId) (kA kB:Nat) (hsa:w.shape? vb=some (tA,kA)) (hsb:w.shape? b=some (tB,kB)) (hkB:kB≠0) (hfa:w.frozen? ⟨vb,0,none⟩=false) (hfe:w.frozen? ⟨vb,kA,none⟩=false):
  Calls prog 279 #[.slice (some ⟨b,0,none⟩) n c,.int .i64 i,.slice (some ⟨vb,0,none⟩) 1 vc] w λe w'=>
   e=.returned (.slice (some ⟨b,0,none⟩) (n+1) c)/\w'=(w.drew.setCells b ((i+1)*2) (cs.drop (i*2))).setCells b (i*2) [u0,u1]:=by
 have mixed:prog.follows .mixedOrders=true:=by kernel_rfl
 have u22:prog.underlying 26=some (.slice 75):=by kernel_rfl
 have hz2:¬((i:Int)=(n:Int)):=by omega
 have hsz:(prog.info? 75).map (·.size)=some 2:=by kernel_rfl
 have hov:∀lb cb,(callFunc 347 #[.slice (some ⟨vb,0,none⟩) 1 vc,.slice (some ⟨b,(i+1)*2,none⟩) lb cb]).run prog w=.ok (.value (.bool false)) w:=λlb cb=>by
  rw[run_callFunc_extern Tryz.func347 (by kernel_rfl) (by kernel_rfl) (by kernel_rfl) (e:=Extern.SlicesOverlaps.overlaps #[26,26] #[4]) (by kernel_rfl),
   Lib.run_overlaps_apart w 26 4 75 u22 2 (λw=>by rfl) ⟨vb,0,none⟩ ⟨b,(i+1)*2,none⟩ 1 vc lb cb hvb tA tB kA kB hsa hsb hkB hfa hfe]
  rfl
 have hdl:(cs.drop (i*2)).length=(n-i)*2:=by rw[YN,hcl];omega
 have hw1:i64.wrap ((i:Int)+1)=(i:Int)+1:=by rw[IntKind.wrap_i64];omega
 have hw2:i64.wrap ((n:Int)+1)=(n:Int)+1:=by rw[IntKind.wrap_i64];omega
 have hb1:(0:Int)<=(i:Int)+1:=by omega
 have hin:i<=n:=by omega
 have htn:((i:Int)+1).toNat=i+1:=by omega
 have hb2:¬(c=i+1):=by omega
 have hb3:(i:Int)<=(n:Int)+1:=by omega
 have hb4:¬(c=i):=by omega
 have hcp1:∀ty dc sc,(Builtin.copy_ #[26,26] ty #[.slice (some ⟨b,(i+1)*2,none⟩) (n-i) dc,.slice (some ⟨b,i*2,none⟩) (n+1-i) sc]).run prog w.drew=.ok (goInt (Nat.min (n+1-i) (n-i))) (w.drew.setCells b ((i+1)*2) (cs.drop (i*2))):=λty dc sc=>
  Zck w.drew _ _ ty 75 2 b ((i+1)*2) (n-i) dc ⟨b,i*2,none⟩ (n+1-i) sc (cs.drop (i*2)) u22 hsz (by rw[hdl];simp only[Nat.min_def];split<;>omega)
   (λj v hj=>by rw[Addr.add_lit];exact hcs (i*2+j) v (by rwa [YI] at hj))
   (λj hj=>by exact hsp _ (by omega)) (λj hj=>by exact hfz _ (by omega)) (λv hv=>h1c v (Yav hv))
 obtain⟨W1,hW1⟩:∃W1,W1=w.drew.setCells b ((i+1)*2) (cs.drop (i*2)):=⟨_,rfl⟩;have hsp1:∀k,k<(n+1)*2->(W1.cell? ⟨b,k,none⟩).isSome=true:=λk hk=>by rw[hW1];exact isSome_setCells b (cs.drop (i*2)) ((i+1)*2) w.drew (λj hj=>hsp _ (by omega)) _ (hsp k hk)
 have hcp2:∀(W:World),(∀x,W.cell? x=W1.cell? x)->(∀x,W.frozen? x=W1.frozen? x)->∀ty dc,(Builtin.copy_ #[26,26] ty #[.slice (some ⟨b,i*2,none⟩) (n+1-i) dc,.slice (some ⟨vb,0,none⟩) 1 vc]).run prog W=.ok (goInt (Nat.min 1 (n+1-i))) (W.setCells b (i*2) [u0,u1]):=λW hWc hWf ty dc=>
  Zck W _ _ ty 75 2 b (i*2) (n+1-i) dc ⟨vb,0,none⟩ 1 vc [u0,u1] u22 hsz (by simp only[Nat.min_def,List.length_cons,List.length_nil];split<;>omega)
   (λj v hj=>by
    rw[Addr.add_lit,Yu,hWc,hW1,World.cell?_setCells_out b _ _ _ _ (λh _=>absurd h hvb)]
    exact hvs j v hj)
   (λj hj=>by rw[hWc];simp only[List.length_cons,List.length_nil] at hj;exact hsp1 _ (by omega)) (λj hj=>by rw[hWf,hW1,World.frozen?_setCells];simp only[List.length_cons,List.length_nil] at hj;exact hfz _ (by omega)) h1v
 rw[<-hW1] at hcp1
 go_enter Tryz.func279,Tryz.ntmps279
 go_wp2_with (simp only[hov])
 go_region_law_o (refine step_copy_runI rfl _ _ 26 26 rfl _ _ (by simp[Act.eval,Act.put]) (by simp[Act.eval,Act.put]) (hcp1 _ _ _) ?_)
 go_wp2_with (at_builtin;refine wpList_copy_runI _ rfl _ _ 26 26 rfl _ _ rfl rfl (hcp2 _ (λ_=>rfl) (λ_=>rfl) _ _) ?_)
 go_ret
 first|exact⟨rfl,rfl⟩|exact⟨rfl,by rw[hW1]⟩
set_option maxHeartbeats 4000000 in
set_option maxRecDepth 100000 in
theorem ZzO (b n c vb vc:Nat) (u0 u1:Value) (w:World) (hroom:n+1<=c) (hc63:c<=9223372036854775807)
  (hsp:∀j,j<2->(w.cell? ⟨b,n*2+j,none⟩).isSome=true) (hfz:∀j,j<2->w.frozen? ⟨b,n*2+j,none⟩=false)
  (hvs:∀j v,[u0,u1][j]? =some v->w.cell? ⟨vb,j,none⟩=some v) (h1v:∀v∈[u0,u1],v.oneCell'=true):
  Calls prog 279 #[.slice (some ⟨b,0,none⟩) n c,.int .i64 n,.slice (some ⟨vb,0,none⟩) 1 vc] w λe w'=>
   e=.returned (.slice (some ⟨b,0,none⟩) (n+1) c)/\w'=w.setCells b (n*2) [u0,u1]:=by
 have mixed:prog.follows .mixedOrders=true:=by kernel_rfl
 have u22:prog.underlying 26=some (.slice 75):=by kernel_rfl
 obtain⟨i0,hi0,hzs⟩:∃i0,prog.info? 75=some i0/\i0.size=2:=⟨_,rfl,by kernel_rfl⟩;have hsrc:Src prog i0.size 26 (.slice (some ⟨vb,0,none⟩) 1 vc) 1 [u0,u1] w:=Src.ofSlice w u22 ⟨vb,0,none⟩ 1 vc [u0,u1] (by rw[hzs];rfl) (λj u hj=>by rw[Addr.add_lit,Yu];exact hvs j u hj) h1v;have hrun:∀ty,(Builtin.append_ #[26,26] ty #[.slice (some ⟨b,0,none⟩) n c,.slice (some ⟨vb,0,none⟩) 1 vc]).run prog w=.ok (.slice (some ⟨b,0,none⟩) (n+1) c) (w.setCells b (n*2) [u0,u1]):=λty=>by have:=run_append_room_src (P:=prog) w 26 26 ty 75 i0 u22 hi0 b 0 n c _ 1 [u0,u1] hsrc hroom (by rw[hzs,Yu];exact hsp) (by rw[hzs,Yu];exact hfz);rwa [hzs,Yu] at this
 clear hsrc hsp hfz hvs
 go_enter Tryz.func279,Tryz.ntmps279
 go_wp2_with (at_builtin;refine Lib.wpList_append_run _ rfl _ _ _ _ rfl _ _ rfl rfl _ _ (hrun _) ?_)
 go_ret
 exact⟨rfl,rfl⟩
set_option maxHeartbeats 4000000 in
set_option maxRecDepth 100000 in
theorem Zk4 (base:Option Addr) (n c vb vc:Nat) (cs:List Value) (u0 u1:Value) (w:World) (hnc:n<=c) (hroom:c<n+1) (hbig:n+1<=most)
  (hcl:cs.length=n*2) (hnil:base=none->n=0) (hz:∀i,prog.info? 75=some i->i.zero=some (.agg #[.int .u16 0,.int .u8 0]))
  (hcs:∀a,base=some a->∀j v,cs[j]? =some v->w.cell? (a.add j)=some v)
  (hvs:∀j v,[u0,u1][j]? =some v->w.cell? ⟨vb,j,none⟩=some v) (h1v:∀v∈[u0,u1],v.oneCell'=true):
  Calls prog 279 #[.slice base n c,.int .i64 n,.slice (some ⟨vb,0,none⟩) 1 vc] w λe w'=>
   e=.returned (.slice (some ⟨w.heap.size,0,none⟩) (n+1) (grownCap w (n+1) c 75))/\
   w'=w.drew.alloc (.cells ((cs++[u0,u1]).toArray++Builtin.zeroCells #[Value.int .u16 0,Value.int .u8 0] (grownCap w (n+1) c 75-(n+1))) 75):=by
 have mixed:prog.follows .mixedOrders=true:=by kernel_rfl
 have u22:prog.underlying 26=some (.slice 75):=by kernel_rfl
 obtain⟨i0,hi0,hzs,hzb⟩:∃i0,prog.info? 75=some i0/\i0.size=2/\i0.bytes=4:=⟨_,rfl,by kernel_rfl,by kernel_rfl⟩;have hz0:=hz i0 hi0;have hmost:most<=2199023255552:=by decide
 have hsrc:Src prog i0.size 26 (.slice (some ⟨vb,0,none⟩) 1 vc) 1 [u0,u1] w:=Src.ofSlice w u22 ⟨vb,0,none⟩ 1 vc [u0,u1] (by rw[hzs];rfl) (λj u hj=>by rw[Addr.add_lit,Yu];exact hvs j u hj) h1v;have hold:(Builtin.firstCells i0.size n (.slice base n c)).run prog w.drew=.ok cs.toArray w.drew:=by
  cases base with
  |none=>
   have h0:=hnil rfl;subst h0;have h0c:cs=[]:=YX.1 (by omega);rw[h0c];exact run_firstCells_none w.drew _ 0 0 c
  |some a=>exact run_firstCells_some w.drew _ n a n c cs (by rw[hzs];exact hcl) (λj v hj=>hcs a rfl j v hj)
 have hrun:∀ty,(Builtin.append_ #[26,26] ty #[.slice base n c,.slice (some ⟨vb,0,none⟩) 1 vc]).run prog w=_:=λty=>
  run_append_grow_src w 26 26 ty 75 i0 _ u22 hi0 hz0 base n c cs hold _ 1 [u0,u1] hsrc hroom (by omega) (by rw[hzb];exact growslice_fits hroom (by omega))
 clear hsrc hold hvs hz
 go_enter Tryz.func279,Tryz.ntmps279
 cases base with
 |none=>
  have h0:=hnil rfl;subst h0
  go_wp2_with (at_builtin;refine Lib.wpList_append_run _ rfl _ _ _ _ rfl _ _ rfl rfl _ _ (hrun _) ?_)
  go_ret
  exact⟨rfl,rfl⟩
 |some a=>
  obtain⟨ab,ao,asp⟩:=a
  go_wp2_with (at_builtin;refine Lib.wpList_append_run _ rfl _ _ _ _ rfl _ _ rfl rfl _ _ (hrun _) ?_)
  all_goals (go_ret;exact⟨rfl,rfl⟩)
end
open Go Go.S3 Go.Proofs Go.Shelf Go.RowKit Go.Lib
noncomputable section
set_option maxHeartbeats 4000000 in
set_option maxRecDepth 100000 in
theorem ZVH (b n c i vb vc:Nat) (cs:List Value) (u0 u1:Value) (w:World) (hi:i<n) (hnc:n<=c) (hroom:c<n+1) (hbig:n+1<=most)
  (hcl:cs.length=n*2) (hz:∀i,prog.info? 75=some i->i.zero=some (.agg #[.int .u16 0,.int .u8 0]))
  (hcs:∀j v,cs[j]? =some v->w.cell? ⟨b,j,none⟩=some v)
  (hvs:∀j v,[u0,u1][j]? =some v->w.cell? ⟨vb,j,none⟩=some v) (h1c:∀v∈cs,v.oneCell'=true) (h1v:∀v∈[u0,u1],v.oneCell'=true):
  Calls prog 279 #[.slice (some ⟨b,0,none⟩) n c,.int .i64 i,.slice (some ⟨vb,0,none⟩) 1 vc] w λe w'=>
   e=.returned (.slice (some ⟨w.heap.size,0,none⟩) (n+1) (grownCap w (n+1) c 75))/\
   w'=(((w.alloc (.cells ((cs.take (i*2)).toArray++Builtin.zeroCells #[Value.int .u16 0,Value.int .u8 0] (n+1-i)++Builtin.zeroCells #[Value.int .u16 0,Value.int .u8 0] (grownCap w (n+1) c 75-(n+1))) 75)).drew.setCells w.heap.size (i*2) [u0,u1]).drew).setCells w.heap.size ((i+1)*2) (cs.drop (i*2)):=by
 have mixed:prog.follows .mixedOrders=true:=by kernel_rfl
 have u22:prog.underlying 26=some (.slice 75):=by kernel_rfl
 have u3:prog.underlying 3=some (.int .i64):=by kernel_rfl
 obtain⟨i0,hi0,hzs,hzb⟩:∃i0,prog.info? 75=some i0/\i0.size=2/\i0.bytes=4:=⟨_,rfl,by kernel_rfl,by kernel_rfl⟩;have hz0:=hz i0 hi0;have hmost:most<=2199023255552:=by decide
 have hz2:¬((i:Int)=(n:Int)):=by omega
 have hz3:(c:Int)<(n:Int)+1:=by omega
 have hsz:(prog.info? 75).map (·.size)=some 2:=by rw[hi0];simp[hzs]
 have hbw:b<w.heap.size:=block_lt_of_cell (hcs 0 _ (Yi (by omega)));have hvw:vb<w.heap.size:=block_lt_of_cell (hvs 0 _ rfl);have hkk:(n:Int)+1-(i:Int)=((n+1-i:Nat):Int):=by omega
 have hik:i+(n+1-i)=n+1:=by omega
 have hold:(Builtin.firstCells i0.size i (.slice (some ⟨b,0,none⟩) i c)).run prog w.drew=.ok (cs.take (i*2)).toArray w.drew:=
  run_firstCells_some w.drew _ i ⟨b,0,none⟩ i c (cs.take (i*2)) (by rw[hzs,YA];omega) (λj v hj=>by
   rw[Addr.add_lit,Yu];rw[YC] at hj;split at hj
   ·exact hcs j v hj
   ·cases hj)
 have hrz:∀ty,(Builtin.append_ #[26,3] ty #[.slice (some ⟨b,0,none⟩) i c,.int .i64 ((n:Int)+1-(i:Int))]).run prog w=
   .ok (.slice (some ⟨w.heap.size,0,none⟩) (n+1) (grownCap w (n+1) c 75)) (w.drew.alloc (.cells ((cs.take (i*2)).toArray++Builtin.zeroCells #[Value.int .u16 0,Value.int .u8 0] (n+1-i)++Builtin.zeroCells #[Value.int .u16 0,Value.int .u8 0] (grownCap w (n+1) c 75-(n+1))) 75)):=λty=>by have h:=Lib.run_append_grow_zeros w 26 3 ty 75 i0 _ .i64 .i64 u22 u3 hi0 hz0 (some ⟨b,0,none⟩) i c (cs.take (i*2)) hold (n+1-i) (by omega) (by omega) (by omega) (by omega) (by rw[hzb];omega) (by rw[hzb,hik];exact growslice_fits hroom (by omega));rw[hik] at h;rw[hkk];exact h
 obtain⟨G,hG⟩:∃G,G=grownCap w (n+1) c 75:=⟨_,rfl⟩;obtain⟨ROW,hROW⟩:∃ROW:Array Value,ROW=(cs.take (i*2)).toArray++Builtin.zeroCells #[Value.int .u16 0,Value.int .u8 0] (n+1-i)++Builtin.zeroCells #[Value.int .u16 0,Value.int .u8 0] (G-(n+1)):=⟨_,rfl⟩;rw[<-hG] at hrz|-;rw[<-hROW] at hrz|-;have hRl:(n+1)*2<=ROW.size:=by rw[hROW];simp only[Array.size_append,YaN,YA,size_zeroCells,List.length_cons,List.length_nil];omega
 obtain⟨W1,hW1⟩:∃W1,W1=w.drew.alloc (.cells ROW 75):=⟨_,rfl⟩;rw[<-hW1] at hrz;have hN:∀j,j<(n+1)*2->(W1.cell? ⟨w.heap.size,j,none⟩).isSome=true:=λj hj=>by rw[hW1,World.cell?_alloc_at (w:=w.drew) ROW _ w.heap.size j rfl,YL (by omega)];rfl
 have hNf:∀j,W1.frozen? ⟨w.heap.size,j,none⟩=false:=λj=>by rw[hW1];exact World.frozen?_alloc_at (w:=w.drew) ROW _ w.heap.size j rfl
 have hOb:∀j v,w.cell? ⟨b,j,none⟩=some v->W1.cell? ⟨b,j,none⟩=some v:=λj v h=>by rw[hW1,World.cell?_alloc_past (w:=w.drew) _ b j hbw];exact h
 have hOv:∀j v,w.cell? ⟨vb,j,none⟩=some v->W1.cell? ⟨vb,j,none⟩=some v:=λj v h=>by rw[hW1,World.cell?_alloc_past (w:=w.drew) _ vb j hvw];exact h
 have hcpA:∀(W:World),(∀x,W.cell? x=W1.cell? x)->(∀x,W.frozen? x=W1.frozen? x)->∀ty dc,(Builtin.copy_ #[26,26] ty #[.slice (some ⟨w.heap.size,i*2,none⟩) (n+1-i) dc,.slice (some ⟨vb,0,none⟩) 1 vc]).run prog W=.ok (goInt (Nat.min 1 (n+1-i))) (W.setCells w.heap.size (i*2) [u0,u1]):=λW hWc hWf ty dc=>
  Zck W _ _ ty 75 2 w.heap.size (i*2) (n+1-i) dc ⟨vb,0,none⟩ 1 vc [u0,u1] u22 hsz (by simp only[Nat.min_def,List.length_cons,List.length_nil];split<;>omega)
   (λj v hj=>by rw[Addr.add_lit,Yu,hWc];exact hOv _ v (hvs j v hj))
   (λj hj=>by rw[hWc];simp only[List.length_cons,List.length_nil] at hj;exact hN _ (by omega)) (λj hj=>by rw[hWf];exact hNf _) h1v
 have hGn:n+1<=G:=by rw[hG];exact grownCap_ge w _ _ _
 have hG63:G<=9223372036854775807:=by have:=grownCap_le_maxLen w (n+1) c 75 (by unfold maxLen;omega);rw[<-hG] at this;unfold maxLen at this;omega
 have hGi:¬(G=i):=by omega
 have hGim:¬(G=i+1):=by omega
 have hci:¬(c=i):=by omega
 have hbN:b≠w.heap.size:=by omega
 have hdl:(cs.drop (i*2)).length=(n-i)*2:=by rw[YN,hcl];omega
 have hcpB:∀(W:World),(∀x,W.cell? x=(W1.setCells w.heap.size (i*2) [u0,u1]).cell? x)->(∀x,W.frozen? x=(W1.setCells w.heap.size (i*2) [u0,u1]).frozen? x)->∀ty dc sc,(Builtin.copy_ #[26,26] ty #[.slice (some ⟨w.heap.size,(i+1)*2,none⟩) (n-i) dc,.slice (some ⟨b,i*2,none⟩) (n-i) sc]).run prog W=.ok (goInt (Nat.min (n-i) (n-i))) (W.setCells w.heap.size ((i+1)*2) (cs.drop (i*2))):=λW hWc hWf ty dc sc=>
  Zck W _ _ ty 75 2 w.heap.size ((i+1)*2) (n-i) dc ⟨b,i*2,none⟩ (n-i) sc (cs.drop (i*2)) u22 hsz (by rw[hdl];simp only[Nat.min_def];split<;>omega)
   (λj v hj=>by
    rw[Addr.add_lit,hWc,World.cell?_setCells_out _ _ _ _ _ (λh _=>absurd h hbN)]
    exact hOb _ v (hcs (i*2+j) v (by rwa [YI] at hj)))
   (λj hj=>by rw[hWc];exact isSome_setCells _ _ _ _ (λt ht=>by simp only[List.length_cons,List.length_nil] at ht;exact hN _ (by omega)) _ (hN _ (by omega)))
   (λj hj=>by rw[hWf,World.frozen?_setCells];exact hNf _) (λv hv=>h1c v (Yav hv))
 subst hW1;have hE1:∀x,((w.alloc (.cells ROW 75)).drew).cell? x=(w.drew.alloc (.cells ROW 75)).cell? x:=λx=>rfl
 have hE2:∀x,((w.alloc (.cells ROW 75)).drew).frozen? x=(w.drew.alloc (.cells ROW 75)).frozen? x:=λx=>rfl
 have hF1:∀x,(((w.alloc (.cells ROW 75)).drew.setCells w.heap.size (i*2) [u0,u1]).drew).cell? x=((w.drew.alloc (.cells ROW 75)).setCells w.heap.size (i*2) [u0,u1]).cell? x:=λx=>rfl
 have hF2:∀x,(((w.alloc (.cells ROW 75)).drew.setCells w.heap.size (i*2) [u0,u1]).drew).frozen? x=((w.drew.alloc (.cells ROW 75)).setCells w.heap.size (i*2) [u0,u1]).frozen? x:=λx=>rfl
 have hw1:i64.wrap ((i:Int)+1)=(i:Int)+1:=by rw[IntKind.wrap_i64];omega
 have hw2:i64.wrap ((n:Int)+1)=(n:Int)+1:=by rw[IntKind.wrap_i64];omega
 have hb1:(0:Int)<=(i:Int)+1:=by omega
 have hin:i<=n:=by omega
 have htn:((i:Int)+1).toNat=i+1:=by omega
 have hb3:(i:Int)<=(n:Int):=by omega
 clear hkk hik hold hROW hG hRl hz hz0 hi0
 go_enter Tryz.func279,Tryz.ntmps279
 go_wp2_with (first
  |(at_builtin;refine Lib.wpList_append_run _ rfl _ _ _ _ rfl _ _ rfl rfl _ _ (hrz _) ?_)
  |(at_builtin;refine wpList_copy_runI _ rfl _ _ 26 26 rfl _ _ rfl rfl (hcpA _ hE1 hE2 _ _) ?_)
  |(at_builtin;refine wpList_copy_runI _ rfl _ _ 26 26 rfl _ _ rfl rfl (hcpB _ (λ_=>rfl) (λ_=>rfl) _ _ _) ?_))
 go_region_law_o (refine step_copy_runI rfl _ _ 26 26 rfl (.slice (some ⟨w.heap.size,(i+1)*2,none⟩) (n-i) (G-(i+1))) (.slice (some ⟨b,i*2,none⟩) (n-i) (c-i)) (by simp[Act.eval,Act.put]) (by simp[Act.eval,Act.put]) (hcpB _ hF1 hF2 3 (G-(i+1)) (c-i)) ?_)
 go_wp2
 go_ret
 exact⟨rfl,rfl⟩
set_option maxHeartbeats 4000000 in
set_option maxRecDepth 1000000 in
theorem Z0R (b n c i:Nat) (cs:List Value) (z0 z1:Value) (w:World) (hi:i<n) (hnc:n<=c) (hm:c<=9223372036854775807) (hcl:cs.length=n*2)
  (hz:∀w,(zeroValue 75).run prog w=.ok (.agg #[.int .u16 0,.int .u8 0]) w) (hzs:(Builtin.zeroCells (Value.agg #[.int .u16 0,.int .u8 0]).cells 1).toList=[z0,z1]) (h1z:∀v∈[z0,z1],v.oneCell'=true)
  (hcs:∀j v,cs[j]? =some v->w.cell? ⟨b,j,none⟩=some v) (hfz:∀j,j<n*2->w.frozen? ⟨b,j,none⟩=false) (h1c:∀v∈cs,v.oneCell'=true):
  Calls prog 278 #[.slice (some ⟨b,0,none⟩) n c,.int .i64 i,.int .i64 ((i:Int)+1)] w λe w'=>
   e=.returned (.slice (some ⟨b,0,none⟩) (n-1) c)/\w'=(w.drew.setCells b (i*2) (cs.drop ((i+1)*2))).setCells b ((n-1)*2) [z0,z1]:=by
 have mixed:prog.follows .mixedOrders=true:=by kernel_rfl
 have t22:prog.underlying 26=some (.slice 75):=by kernel_rfl
 obtain⟨i0,hi0,hz1⟩:∃i0,prog.info? 75=some i0/\i0.size=2:=⟨_,rfl,by kernel_rfl⟩;obtain⟨news,hnews⟩:∃news,news=cs.drop ((i+1)*2):=⟨_,rfl⟩;have hlen:news.length=(n-(i+1))*2:=by rw[hnews,YN,hcl];omega
 obtain⟨A,hA,hsrc⟩:∃A:Addr,(if c=i+1 then some (⟨b,0,none⟩:Addr) else some ⟨b,(i+1)*2,none⟩)=some A/\Hid (∀t u,news[t]? =some u->w.drew.cell? (A.add t)=some u):=by
  by_cases h:c=i+1
  ·refine⟨⟨b,0,none⟩,by simp[h],λt u hu=> ?_⟩;have h0:news.length=0:=by rw[hlen];omega
   rw[YX.1 h0] at hu;simp at hu
  ·refine⟨⟨b,(i+1)*2,none⟩,by simp[h],λt u hu=> ?_⟩;rw[Addr.add_lit];rw[hnews,YI] at hu;exact hcs _ u hu
 have s1:Hid (news.length=(n-(i+1))*2):=hlen;have s2:Hid (∀u∈news,u.oneCell'=true):=by intro u hu;rw[hnews] at hu;exact h1c u (Yav hu)
 have hsome:∀j,j<n*2->(w.cell? ⟨b,j,none⟩).isSome=true:=λj hj=>by rw[hcs j _ (Yi (by omega))];rfl
 have s3:Hid (∀t,t<news.length->(w.drew.cell? ⟨b,0+i*2+t,none⟩).isSome=true/\w.drew.frozen? ⟨b,0+i*2+t,none⟩=false):=by intro t ht;rw[hlen] at ht;rw[Yu];exact⟨hsome _ (by omega),hfz _ (by omega)⟩
 obtain⟨W1,hW1⟩:∃W1,W1=w.drew.setCells b (0+i*2) news:=⟨_,rfl⟩;have hsome1:∀j,j<n*2->(W1.cell? ⟨b,j,none⟩).isSome=true:=λj hj=>by rw[hW1];exact isSome_setCells b _ _ _ (λt ht=>by rw[hlen] at ht;rw[Yu];exact hsome _ (by omega)) _ (hsome j hj)
 have hcl:∀ty dc,(Builtin.clear_ #[26] ty #[.slice (some ⟨b,(i+(n-(i+1)))*2,none⟩) (n-(i+(n-(i+1)))) dc]).run prog W1=.ok (.tuple #[]) (W1.setCells b ((i+(n-(i+1)))*2) [z0,z1]):=λty dc=>by rw[show n-(i+(n-(i+1)))=1 by omega];exact ZmO W1 _ _ ty (.agg #[.int .u16 0,.int .u8 0]) t22 hz b _ 1 dc (by omega) [z0,z1] hzs h1z (λt ht=>hsome1 _ (by simp only[List.length_cons,List.length_nil] at ht;omega)) (λt ht=>by rw[hW1,World.frozen?_setCells];exact hfz _ (by simp only[List.length_cons,List.length_nil] at ht;omega))
 have hW:Hid (W1=w.drew.setCells b (0+i*2) news):=hW1;have hfin:w.drew.setCells b (i*2) (cs.drop ((i+1)*2))=W1:=by rw[hW1,hnews,Yu]
 rw[hfin];have hic:i<=c:=by omega
 have hjc:i+1<=c:=by omega
 have hne:¬((i:Int)=(i:Int)+1):=by omega
 have hb5:(i:Int)+1<=(n:Int):=by omega
 have htn:((i:Int)+1).toNat=i+1:=by omega
 have hb1:(0:Int)<=(i:Int)+1:=by omega
 clear hW1 hnews hlen hsome hsome1 hfin hcs hfz h1c
 go_enter Tryz.func278,Tryz.ntmps278
 go_wp2_with fail
 go_region_law_o (refine step_append_room rfl (.tmp 22) (.tmp 25) 26 rfl 75 i0 2 t22 hi0 hz1 b 0 i c (by simp[Act.eval,Act.put]) A (n-(i+1)) (c-(i+1)) news (by simp[Act.eval,Act.put]) s1.out hsrc.out s2.out (by omega) s3.out ?_;rw[<-hW.out])
 go_wp2
 go_ret
 have hq:n-1=i+(n-(i+1)):=by omega
 exact⟨by rw[hq];rfl,by rw[hq]⟩
end
end Go.Proofs.YtpnjbfjomebppaaGreat
namespace Go.Proofs.Cells
abbrev Cell:=Int×Int
def flt (k:Int) (l:List Cell):List Cell:=l.filter (λc=>c.1==k)
def Srt (l:List Cell):Prop:=l.Pairwise (λa b=>a.1<=b.1)
def Sm (l l':List Cell):Prop:=∀k,flt k l=flt k l'
theorem Zdi (k:Int) (a b:List Cell):flt k (a++b)=flt k a++flt k b:=List.filter_append ..
variable {l:List Cell}
theorem Zef {k:Int} (h:∀c∈l,c.1≠k):flt k l=[]:=by simp only[flt,List.filter_eq_nil_iff,beq_iff_eq];exact h
theorem Sm.refl (l:List Cell):Sm l l:=λ_=>rfl
theorem Sm.symm {a b:List Cell} (h:Sm a b):Sm b a:=λk=>(h k).symm
theorem Sm.trans {a b c:List Cell} (h:Sm a b) (k:Sm b c):Sm a c:=λi=>(h i).trans (k i)
variable {a b:List Cell}
theorem Sm.app {c d:List Cell} (h:Sm a b) (k:Sm c d):Sm (a++c) (b++d):=λi=>by rw[Zdi,Zdi,h i,k i]
theorem Sm.mem (h:Sm a b) (x:Cell):x∈a↔x∈b:=by
 have e:∀l:List Cell,x∈l↔x∈flt x.1 l:=λl=>by simp[flt]
 rw[e a,e b,h x.1]
theorem uniq:∀{l l':List Cell},Srt l->Srt l'->Sm l l'->l=l'
 |[],[],_,_,_=>rfl
 |[],y::r,_,_,h=>by have:=h y.1;simp[flt] at this
 |x::l,[],_,_,h=>by have:=h x.1;simp[flt] at this
 |x::l,y::r,hl,hr,h=>by
  have h1:=Yv.1 hl;have h2:=Yv.1 hr;have hx:x∈y::r:=(h.mem x).1 (by simp);have hy:y∈x::l:=(h.mem y).2 (by simp);have e1:y.1<=x.1:=by
   rcases Yx.1 hx with e|e
   ·rw[e];exact Int.le_refl _
   ·exact h2.1 x e
  have e2:x.1<=y.1:=by
   rcases Yx.1 hy with e|e
   ·rw[e];exact Int.le_refl _
   ·exact h1.1 y e
  have e:x.1=y.1:=Int.le_antisymm e2 e1;have hxy:=h x.1;have k1:flt x.1 (x::l)=x::flt x.1 l:=by simp[flt]
  have k2:flt x.1 (y::r)=y::flt x.1 r:=by simp[flt,e]
  rw[k1,k2] at hxy;obtain⟨exy,_⟩:=List.cons.inj hxy;subst exy;have:l=r:=uniq h1.2 h2.2 λk=>by
   have:=h k;by_cases hk:x.1=k
   ·subst hk;simpa [flt] using this
   ·simpa [flt,hk] using this
  rw[this]
def ins (x:Cell):List Cell->List Cell
 |[]=>[x]
 |y::r=>if x.1<y.1 then x::y::r else y::ins x r
def isort (l:List Cell):List Cell:=l.foldl (λa x=>ins x a) []
theorem ZSq {x y:Cell}:∀{l:List Cell},y∈ins x l↔y=x\/y∈l
 |[]=>by simp[ins]
 |z::r=>by
  simp only[ins];split
  ·simp
  ·simp only[Yx,ZSq (l:=r)];constructor
   ·rintro (h|h|h)<;>simp[h]
   ·rintro (h|h|h)<;>simp[h]
theorem ZEF (x:Cell):∀{l:List Cell},Srt l->Srt (ins x l)
 |[],_=>by simp[ins,Srt]
 |y::r,h=>by
  have h1:=Yv.1 h;simp only[ins];split
  ·rename_i hlt;refine Yv.2 ⟨λz hz=> ?_,h⟩;rcases Yx.1 hz with e|e
   ·rw[e];omega
   ·have:=h1.1 z e;omega
  ·refine Yv.2 ⟨λz hz=> ?_,ZEF x h1.2⟩;rcases ZSq.1 hz with e|e
   ·rw[e];omega
   ·exact h1.1 z e
theorem ZSs (k:Int) (x:Cell):∀{l:List Cell},Srt l->flt k (ins x l)=flt k l++flt k [x]
 |[],_=>by simp[ins,flt]
 |y::r,h=>by
  have h1:=Yv.1 h;simp only[ins];split
  ·rename_i hlt;by_cases hk:x.1=k
   ·have:flt k (y::r)=[]:=Zef λc hc=>by
     rcases Yx.1 hc with e|e
     ·rw[e];omega
     ·have:=h1.1 c e;omega
    have e:flt k (x::y::r)=flt k [x]++flt k (y::r):=Zdi k [x] (y::r);rw[e,this];simp
   ·have e1:flt k [x]=[]:=Zef λc hc=>by simp at hc;rw[hc];exact hk
    have e:flt k (x::y::r)=flt k [x]++flt k (y::r):=Zdi k [x] (y::r);rw[e,e1];simp
  ·have e:∀t,flt k (y::t)=flt k [y]++flt k t:=λt=>Zdi k [y] t
   rw[e,e r,ZSs k x h1.2,Yo]
theorem ZLH (l:List Cell) (x:Cell):isort (l++[x])=ins x (isort l):=by simp[isort]
theorem ZIj:∀(l acc:List Cell),Srt acc->Srt (l.foldl (λa x=>ins x a) acc)
 |[],_,h=>h
 |x::l,acc,h=>ZIj l (ins x acc) (ZEF x h)
theorem ZIl (k:Int):∀(l acc:List Cell),Srt acc->flt k (l.foldl (λa x=>ins x a) acc)=flt k acc++flt k l
 |[],acc,_=>by simp[flt]
 |x::l,acc,h=>by have e:flt k (x::l)=flt k [x]++flt k l:=Zdi k [x] l;rw[List.foldl_cons,ZIl k l _ (ZEF x h),ZSs k x h,e,Yo]
theorem ZbI (l:List Cell):Srt (isort l):=ZIj l [] Yae
theorem Zfr (l:List Cell):Sm (isort l) l:=λk=>by rw[isort,ZIl k l [] Yae];rfl
variable {l':List Cell}
theorem Zhi (h1:Srt l') (h2:Sm l' l):isort l=l':=uniq (ZbI l) h1 ((Zfr l).trans h2.symm)
theorem ZzN {x:Cell}:x∈isort l↔x∈l:=(Zfr l).mem x
theorem Zr4 (h:Srt l):isort l=l:=Zhi h (Sm.refl l)
theorem ZpI (h:Sm l l'):isort l=isort l':=Zhi (ZbI l') ((Zfr l').trans h.symm)
theorem ZSn (h:∀x∈a,∀y∈b,x.1<=y.1):isort (a++b)=isort a++isort b:=
 Zhi (Yaa.2 ⟨ZbI a,ZbI b,λx hx y hy=>h x (ZzN.1 hx) y (ZzN.1 hy)⟩) ((Zfr a).app (Zfr b))
theorem Sm.swap {u v:List Cell} (h:∀x∈u,∀y∈v,x.1≠y.1) (a b:List Cell):Sm (a++u++v++b) (a++v++u++b):=by
 have:Sm (u++v) (v++u):=λk=>by
  rw[Zdi,Zdi];by_cases hu:flt k u=[]
  ·simp[hu]
  ·have:flt k v=[]:=Zef λy hy e=>by apply hu;refine Zef λx hx e'=>h x hx y hy (by rw[e,e'])
   simp[this]
 rw[Yo a u v,Yo a v u];exact ((Sm.refl a).app this).app (Sm.refl b)
theorem ZYH {u1 u2 v1 v2:List Cell} (h12:∀x∈u2,∀y∈v1,y.1<x.1) (h1:∀x∈u1,∀y∈v2,x.1<=y.1) (hu:∀x∈u1,∀y∈u2,x.1<=y.1) (hv:∀x∈v1,∀y∈v2,x.1<=y.1):
  isort (u1++u2++v1++v2)=isort (u1++v1)++isort (u2++v2):=by
 rw[ZpI (Sm.swap (λx hx y hy=>by have:=h12 x hx y hy;omega) u1 v2)];rw[Yo (u1++v1) u2 v2];refine ZSn λx hx y hy=> ?_
 rcases Yaq.1 hx with hx|hx<;>rcases Yaq.1 hy with hy|hy
 ·exact hu x hx y hy
 ·exact h1 x hx y hy
 ·have:=h12 y hy x hx;omega
 ·exact hv x hx y hy
end Go.Proofs.Cells
set_option maxRecDepth 100000
namespace Go.Proofs.YtpnjbfjomebppaaGreat
open Go Go.S3 Go.Proofs Go.Proofs.Cells
noncomputable section
abbrev Zci:R:=R.Pq Kb Ka
abbrev Zb6:TypeId:=75
def insX {α:Type} (l:List α) (i:Nat) (c:α):List α:=l.take i++[c]++l.drop i
def delX {α:Type} (l:List α) (i:Nat):List α:=l.take i++l.drop (i+1)
def Zjn (m:Mem) (h:Nat) (l:List Zci.den) (v:Nat) (chk:Bool):Res:=
 {chk:=some chk,v:=.w (.one (.tip h (v+1))),m:={m with Sg:=setN m.Sg h ⟨Zci,Zb6,l,v+1,false,false,false,0⟩},bd:=[],sd:=[h]}
def insE:En:=.tree λvs m=>match vs with
 |[.w (.one (.tip h ver)),.w (.one (.int _ .i64 i)),.w (.one (.tip h2 ver2))]=>match ZaT m h ver,ZaT m h2 ver2 with
  |some g,some g2=>match R.same g.r Zci,R.same g2.r Zci,!g.fzn&&Nat.beq g.T Zb6&&Nat.beq g2.T Zb6&& !Nat.beq h h2 with
   |some e,some e2,true=>match e2.slc.cast g2.l with
    |[c]=>.Lf (some (Zjn m h (insX (e.slc.cast g.l) i.toNat c) g.ver (decide (0<=i)&&decide (i<=((e.slc.cast g.l).length:Int))&&Nat.ble ((e.slc.cast g.l).length+1) most)))
    |_=>.Lf none
   |_,_,_=>.Lf none
  |_,_=>.Lf none
 |_=>.Lf none
def delE:En:=.tree λvs m=>match vs with
 |[.w (.one (.tip h ver)),.w (.one (.int _ .i64 i)),.w (.one (.int _ .i64 j))]=>match ZaT m h ver with
  |some g=>match R.same g.r Zci,!g.fzn&&Nat.beq g.T Zb6 with
   |some e,true=>.Lf (some (Zjn m h (delX (e.slc.cast g.l) i.toNat) g.ver (decide (0<=i)&&decide (i<((e.slc.cast g.l).length:Int))&&decide (j=i+1))))
   |_,_=>.Lf none
  |none=>.Lf none
 |_=>.Lf none
variable {m:Mem} {h:Nat} {chk:Bool} {g:Stg}
theorem ZpL {l:List Zci.den} {v:Nat} (hg:nth m.Sg h=some g) (hv:g.ver=v):KeepC m (Zjn m h l v chk):=by
 refine⟨Ye _,λb l hl=>⟨l,hl,rfl,λ_ _=>rfl⟩,by simp[Zjn,ZN],λi g1 h1=> ?_⟩;by_cases hi:h=i
 ·subst hi;rw[hg] at h1;simp only[oinj] at h1;subst h1;exact⟨_,ZK hg,by simp only;omega,λh=>by simp[Zjn,memN] at h⟩
 ·exact⟨g1,by show nth (setN m.Sg h _) i=_;rw[ZG hi];exact h1,Ye _,λ_=>rfl⟩
theorem wid2:Zci.wid=2:=rfl
theorem Zqm (w:World) (o:Obj):(w.alloc o).heap[w.heap.size]? =some o:=by show (w.heap.push o)[w.heap.size]? =some o;simp
theorem Zjz:∃i0,prog.info? Zb6=some i0/\i0.zero=some (.agg #[.int .u16 0,.int .u8 0]):=⟨_,rfl,by kernel_rfl⟩
theorem ZS1 (w:World):(zeroValue Zb6).run prog w=.ok (Value.agg #[.int .u16 0,.int .u8 0]) w:=by obtain⟨i0,h1,h2⟩:=Zjz;simp[zeroValue,typeInfo,h1,h2]
variable {x:Ctx} {a:List Value}
theorem Z1h {c:Zci.den} (h:RowsOk x Zci [c] a):∃u0 u1,a=[u0,u1]:=by
 have:=h.len;simp only[List.length_singleton,wid2] at this
 match a,this with
 |[u0,u1],_=>exact⟨u0,u1,rfl⟩
theorem ZVF {l:List Zci.den} {c:Zci.den} {b:List Value} (h:RowsOk x Zci l a) (hc:RowsOk x Zci [c] b) (i:Nat):RowsOk x Zci (insX l i c) (a.take (i*2)++b++a.drop (i*2)):=((h.take i).append hc).append (h.drop i)
theorem ZVZ {l:List Zci.den} (h:RowsOk x Zci l a) (i:Nat):RowsOk x Zci (delX l i) (a.take (i*2)++a.drop ((i+1)*2)):=(h.take i).append (h.drop (i+1))
variable {α:Type}
theorem ZVI (l:List α) (i:Nat) (c:α):(insX l i c).length=l.length+1:=by simp[insX];omega
theorem ZV1 (l:List α) (i:Nat) (h:i<l.length):(delX l i).length=l.length-1:=by simp[delX];omega
def Made (w w':World) (e:Ending) (s:SI) (x:Ctx) (l:List Zci.den):Prop:=
 w'.os=w.os/\w'.tape=w.tape/\w'.output=w.output/\w.heap.size<=w'.heap.size/\(∀k,k<w.heap.size->(∀cap,s.blk≠some (k,cap))->w'.heap[k]? =w.heap[k]?)/\
 ∃p cap C rest,((∃c,s.blk=some (p,c))\/w.heap.size<=p)/\w'.heap[p]? =some (.cells (List.toArray (C++rest)) Zb6 (0,0))/\(C++rest).length=cap*2/\l.length<=cap/\cap<=maxLen/\RowsOk x Zci l C/\
  e=.returned (.slice (some ⟨p,0,none⟩) l.length cap)
variable {w:World} {s:SI}
theorem ZRZ {w':World} (hm:MK x m w) (hg:nth m.Sg h=some g) (hs:nth x.S h=some s) (hf:g.fzn=false) (hr:g.r=Zci) (hT:g.T=Zb6)
  {l:List Zci.den} {e:Ending} (hd:Made w w' e s x l):
  ∃val x',e=.returned val/\RV x' (Zjn m h l g.ver chk).v val/\MK x' (Zjn m h l g.ver chk).m w'/\Ext x x'/\Step x w w':=by obtain⟨h1,h2,h3,h4,h5,p,cap,C,rest,h6,h7,h8,h9,h10,h11,rfl⟩:=hd;obtain⟨r,T,gl,gv,gf,gff,glit,gub⟩:=g;simp only at hr hT;subst hr;subst hT;obtain⟨x',m1,e1,s1,a1⟩:=Z1r hm hg hs hf h1 h2 h3 h4 h5 (l:=l) h6 h7 h8 h9 h10 (h11.pre rest);exact⟨_,x',rfl,a1,m1,e1,s1⟩
variable {C A B:List Value} {n:Nat}
theorem Zs0 (h:C=A++B) (hn:A.length=n):C.take n=A:=by rw[h,List.take_append_of_le_length (by omega),Y4 (by omega)]
theorem ZVX (h:C=A++B) (hn:A.length=n):C.drop n=B:=by rw[h,List.drop_append_of_le_length (by omega),Y2 (by omega),List.nil_append]
variable {i:Nat}
theorem ZVG (hm:MK x m w) (hg:nth m.Sg h=some g) (hs:nth x.S h=some s) (hr:g.r=Zci) (hT:g.T=Zb6)
  {l:List Zci.den} (hl:HEq g.l l) (hi:i<=l.length) (hbig:l.length+1<=most) {c:Zci.den} {u0 u1:Value} (hc:RowsOk x Zci [c] [u0,u1])
  {pv cv:Nat} {Cv:List Value} (hv:w.heap[pv]? =some (.cells (List.toArray ([u0,u1]++Cv)) Zb6 (0,0))) (hne:∀cap,s.blk≠some (pv,cap)):
  Calls prog 279 #[tipVal s,.int .i64 i,.slice (some ⟨pv,0,none⟩) 1 cv] w λe w'=>Made w w' e s x (insX l i c):=by
 have ho:=hm.stg h g s hg hs;obtain⟨r,T,gl,gv,gf,gff,glit,gub⟩:=g;simp only at hr hT;subst hr;subst hT;have hl:=eq_of_heq hl;simp only at hl;subst hl;have hmost:most<=2199023255552:=by decide
 have hmax:maxLen=9223372036854775807:=rfl;have h1v:∀v∈[u0,u1],v.oneCell'=true:=hc.one (by decide);have hvs:∀j v,[u0,u1][j]? =some v->w.cell? ⟨pv,j,none⟩=some v:=λj v hj=>by rw[Zaf hv,Yl (YB.1 hj).1];exact hj
 have hpv:=Zh7 hv;have hn:=ho.n;simp only at hn;have hil:=ZVI gl i c;cases hb:s.blk with
 |none=>
  have h0:=ho.nil hb;have hnil:gl=[]:=YX.1 (by omega);subst hnil;have hi0:i=0:=by simpa using hi
  subst hi0;have ht:tipVal s=.slice s.na 0 0:=by simp[tipVal,hb]
  rw[ht];refine (Zk4 s.na 0 0 pv cv [] u0 u1 w (Ye _) (by omega) (by omega) rfl (λ_=>rfl) (λi0 hi0=>by obtain⟨i1,e1,e2⟩:=Zjz;rw[e1] at hi0;simp only[oinj] at hi0;subst hi0;exact e2) (λ_ _ j v hj=>by simp at hj) hvs h1v).mono ?_;rintro e w' ⟨rfl,rfl⟩;have hG:=grownCap_ge w (0+1) 0 Zb6;have hG2:=grownCap_le_maxLen w (0+1) 0 Zb6 (by rw[hmax];omega);generalize grownCap w (0+1) 0 Zb6=G at hG hG2;refine⟨rfl,rfl,rfl,by simp,λk hk _=>RowKit.Below.heap_alloc w.drew _ k hk,w.heap.size,G,[u0,u1],(Builtin.zeroCells #[.int .u16 0,.int .u8 0] (G-(0+1))).toList,.inr (Ye _),?_,?_,by rw[hil];exact hG,hG2,by simpa [insX] using hc,by rw[hil];rfl⟩
  ·have:=Zqm w.drew (.cells (([]++[u0,u1]:List Value).toArray++Builtin.zeroCells #[Value.int .u16 0,Value.int .u8 0] (G-(0+1))) Zb6);refine this.trans ?_;simp[Value.cells]
  ·simp only[Yd,List.length_cons,List.length_nil,Array.length_toList,size_zeroCells];simp;omega
 |some pc=>
  obtain⟨p,cap⟩:=pc;obtain⟨C,c1,c2,c3,c4,_⟩:=ho.row p cap hb;obtain⟨hrows,_,_,_⟩:=RowsOk.of_tip ho c1 hb;simp only[wid2] at c2 hrows;simp only at c1;have ht:tipVal s=.slice (some ⟨p,0,none⟩) gl.length cap:=by simp[tipVal,hb,hn]
  rw[ht];have hp:=Zh7 c1;have hcell:∀j,w.cell? ⟨p,j,none⟩=C[j]? :=λj=>Zaf c1 j
  have hfr:∀j,w.frozen? ⟨p,j,none⟩=false:=λj=>Zfv c1 j
  obtain⟨cs,hcs⟩:∃cs,cs=C.take (gl.length*2):=⟨_,rfl⟩;rw[<-hcs] at hrows;have hcsl:cs.length=gl.length*2:=hrows.len;have h1c:∀v∈cs,v.oneCell'=true:=hrows.one (by decide);have hcsc:∀j v,cs[j]? =some v->w.cell? ⟨p,j,none⟩=some v:=λj v hj=>by
   rw[hcell];rw[hcs,YC] at hj;split at hj
   ·exact hj
   ·simp at hj
  have hne':pv≠p:=λe=>hne cap (by rw[hb,e])
  have hrow:=ZVF hrows hc i;have hsome:∀j,j<cap*2->(w.cell? ⟨p,j,none⟩).isSome=true:=λj hj=>by rw[hcell,Yi (by omega)];rfl
  by_cases hroom:gl.length+1<=cap
  ·by_cases hend:i=gl.length
   ·--at the end,room
    subst hend;refine (ZzO p gl.length cap pv cv u0 u1 w hroom (by rw[hmax] at c4;omega) (λj hj=>hsome _ (by omega)) (λj hj=>hfr _) hvs h1v).mono ?_;rintro e w' ⟨rfl,rfl⟩;have hh:=Zbk (w:=w) (b:=p) (o:=gl.length*2) (vs:=[u0,u1]) c1 (by simp;omega) h1v;obtain⟨z1,z2,z3⟩:=Za1 p [u0,u1] (gl.length*2) w;refine⟨z1,z2,z3,by rw[Za0];exact Ye _,λk hk hkb=>ZaE p _ _ _ k (λe=>hkb cap (by rw[e,hb])),p,cap,_,C.drop (gl.length*2+2),.inl ⟨cap,hb⟩,?_,?_,by rw[hil];exact hroom,c4,hrow,by rw[hil]⟩
    ·rw[hh];have e1:cs.take (gl.length*2)=cs:=Y4 (by omega);have e2:cs.drop (gl.length*2)=[]:=Y2 (by omega);rw[e1,e2,<-hcs];simp
    ·have e2:cs.drop (gl.length*2)=[]:=Y2 (by omega);rw[e2];simp only[Yd,YA,YN,List.length_cons,List.length_nil];omega
   ·--a shift
    have hkB:C.toArray.size≠0:=by simp only[YaN];omega
    refine (ZSp p gl.length cap i pv cv cs u0 u1 w (by omega) hroom (by rw[hmax] at c4;omega) hne' hcsl hcsc (λj hj=>hsome _ (by omega)) (λj _=>hfr _) hvs h1c h1v Zb6 Zb6 ([u0,u1]++Cv).toArray.size C.toArray.size (by simp[World.shape?,hv]) (by simp[World.shape?,c1]) hkB (Zfv hv _) (Zfv hv _)).mono ?_;rintro e w' ⟨rfl,rfl⟩;have hdl:(cs.drop (i*2)).length=(gl.length-i)*2:=by rw[YN,hcsl];omega
    have hh1:=Zbk (w:=w.drew) (b:=p) (o:=(i+1)*2) (vs:=cs.drop (i*2)) c1 (by rw[hdl];omega) (λv hv=>h1c v (Yav hv));obtain⟨C1,hC1⟩:∃C1,C1=C.take ((i+1)*2)++cs.drop (i*2)++C.drop ((i+1)*2+(cs.drop (i*2)).length):=⟨_,rfl⟩;rw[<-hC1] at hh1;have hC1l:C1.length=C.length:=by rw[hC1];simp only[Yd,YA,YN,hdl];omega
    have hh:=Zbk (w:=w.drew.setCells p ((i+1)*2) (cs.drop (i*2))) (b:=p) (o:=i*2) (vs:=[u0,u1]) hh1 (by simp;omega) h1v;obtain⟨z1,z2,z3⟩:=Za1 p [u0,u1] (i*2) (w.drew.setCells p ((i+1)*2) (cs.drop (i*2)));obtain⟨y1,y2,y3⟩:=Za1 p (cs.drop (i*2)) ((i+1)*2) w.drew;refine⟨z1.trans y1,z2.trans y2,z3.trans y3,by rw[Za0,Za0];exact Ye _,λk hk hkb=> ?_,p,cap,_,C.drop ((gl.length+1)*2),.inl ⟨cap,hb⟩,?_,?_,by rw[hil];exact hroom,c4,hrow,by rw[hil]⟩
    ·have:k≠p:=λe=>hkb cap (by rw[e,hb])
     rw[ZaE p _ _ _ k this,ZaE p _ _ _ k this];rfl
    ·rw[hh];have e1:C1.take (i*2)=cs.take (i*2):=by rw[hC1,Yo,List.take_append_of_le_length (by simp;omega),List.take_take,hcs,List.take_take,YaS (by omega),YaS (by omega)]
     have e2:C1.drop (i*2+[u0,u1].length)=cs.drop (i*2)++C.drop ((gl.length+1)*2):=by refine ZVX (A:=C.take ((i+1)*2)) ?_ (by simp;omega);rw[hC1,hdl,Yo];congr 3;omega
     rw[e1,e2];simp
    ·simp only[Yd,YA,YN,List.length_cons,List.length_nil,hdl,hcsl,c2];omega
  ·have hcap:cap=gl.length:=by have:=hn;omega
   by_cases hend:i=gl.length
   ·--at the end,a new row
    subst hend
    refine (Zk4 (some ⟨p,0,none⟩) gl.length cap pv cv cs u0 u1 w (by omega) (by omega) hbig hcsl (λe=>by simp at e) (λi0 hi0=>by obtain⟨i1,e1,e2⟩:=Zjz;rw[e1] at hi0;simp only[oinj] at hi0;subst hi0;exact e2) (λa ha j v hj=>by
     simp only[oinj] at ha;subst ha
     rw[Addr.add_lit,Yu];exact hcsc j v hj) hvs h1v).mono ?_
    rintro e w' ⟨rfl,rfl⟩;have hG:=grownCap_ge w (gl.length+1) cap Zb6;have hG2:=grownCap_le_maxLen w (gl.length+1) cap Zb6 (by rw[hmax];omega);generalize grownCap w (gl.length+1) cap Zb6=G at hG hG2;refine⟨rfl,rfl,rfl,by simp,λk hk _=>RowKit.Below.heap_alloc w.drew _ k hk,w.heap.size,G,_,(Builtin.zeroCells #[.int .u16 0,.int .u8 0] (G-(gl.length+1))).toList,.inr (Ye _),?_,?_,by rw[hil];exact hG,hG2,hrow,by rw[hil]⟩
    ·have:=Zqm w.drew (.cells ((cs++[u0,u1]:List Value).toArray++Builtin.zeroCells #[Value.int .u16 0,Value.int .u8 0] (G-(gl.length+1))) Zb6);refine this.trans ?_;have e1:cs.take (gl.length*2)=cs:=Y4 (by omega);have e2:cs.drop (gl.length*2)=[]:=Y2 (by omega);rw[e1,e2];simp[Value.cells]
    ·have e2:cs.drop (gl.length*2)=[]:=Y2 (by omega);rw[e2];simp only[Yd,YA,List.length_cons,List.length_nil,Array.length_toList,size_zeroCells];simp;omega
   ·refine (ZVH p gl.length cap i pv cv cs u0 u1 w (by omega) (by omega) (by omega) hbig hcsl (λi0 hi0=>by obtain⟨i1,e1,e2⟩:=Zjz;rw[e1] at hi0;simp only[oinj] at hi0;subst hi0;exact e2) hcsc hvs h1c h1v).mono ?_;rintro e w' ⟨rfl,rfl⟩;have hG:=grownCap_ge w (gl.length+1) cap Zb6;have hG2:=grownCap_le_maxLen w (gl.length+1) cap Zb6 (by rw[hmax];omega);generalize grownCap w (gl.length+1) cap Zb6=G at hG hG2;obtain⟨R0,hR0⟩:∃R0:List Value,R0=cs.take (i*2)++((Builtin.zeroCells #[.int .u16 0,.int .u8 0] (gl.length+1-i)).toList++(Builtin.zeroCells #[.int .u16 0,.int .u8 0] (G-(gl.length+1))).toList):=⟨_,rfl⟩;have hR:((cs.take (i*2)).toArray++Builtin.zeroCells #[Value.int .u16 0,Value.int .u8 0] (gl.length+1-i)++Builtin.zeroCells #[Value.int .u16 0,Value.int .u8 0] (G-(gl.length+1)))=R0.toArray:=by rw[hR0];simp[Value.cells]
    rw[hR];have hR0l:R0.length=G*2:=by rw[hR0];simp only[Yd,YA,Array.length_toList,size_zeroCells];simp;omega
    have hdl:(cs.drop (i*2)).length=(gl.length-i)*2:=by rw[YN,hcsl];omega
    have hnew:((w.alloc (.cells R0.toArray Zb6)).drew).heap[w.heap.size]? =some (.cells R0.toArray Zb6 (0,0)):=Zqm w _;have hh1:=Zbk (b:=w.heap.size) (o:=i*2) (vs:=[u0,u1]) hnew (by simp;omega) h1v;obtain⟨C1,hC1⟩:∃C1,C1=R0.take (i*2)++[u0,u1]++R0.drop (i*2+[u0,u1].length):=⟨_,rfl⟩;rw[<-hC1] at hh1;have hC1l:C1.length=G*2:=by rw[hC1];simp only[Yd,YA,YN,List.length_cons,List.length_nil];omega
    have hh:=Zbk (w:=(((w.alloc (.cells R0.toArray Zb6)).drew.setCells w.heap.size (i*2) [u0,u1]).drew)) (b:=w.heap.size) (o:=(i+1)*2) (vs:=cs.drop (i*2)) hh1 (by rw[hdl];omega) (λv hv=>h1c v (Yav hv));obtain⟨z1,z2,z3⟩:=Za1 w.heap.size (cs.drop (i*2)) ((i+1)*2) (((w.alloc (.cells R0.toArray Zb6)).drew.setCells w.heap.size (i*2) [u0,u1]).drew);obtain⟨y1,y2,y3⟩:=Za1 w.heap.size [u0,u1] (i*2) (w.alloc (.cells R0.toArray Zb6)).drew;refine⟨z1.trans y1,z2.trans y2,z3.trans y3,?_,λk hk hkb=> ?_,w.heap.size,G,_,C1.drop ((i+1)*2+(cs.drop (i*2)).length),.inr (Ye _),?_,?_,by rw[hil];exact hG,hG2,hrow,by rw[hil]⟩
    ·rw[Za0];show _<=((w.alloc (.cells R0.toArray Zb6)).drew.setCells w.heap.size (i*2) [u0,u1]).heap.size;rw[Za0];show _<=(w.alloc (.cells R0.toArray Zb6)).heap.size;simp
    ·have:k≠w.heap.size:=by omega
     rw[ZaE _ _ _ _ k this];show ((w.alloc (.cells R0.toArray Zb6)).drew.setCells w.heap.size (i*2) [u0,u1]).heap[k]? =_;rw[ZaE _ _ _ _ k this];exact RowKit.Below.heap_alloc w _ k hk
    ·rw[hh];have e1:C1.take ((i+1)*2)=cs.take (i*2)++[u0,u1]:=by refine Zs0 (B:=R0.drop (i*2+[u0,u1].length)) ?_ (by simp;omega);rw[hC1];have:R0.take (i*2)=cs.take (i*2):=Zs0 hR0 (by simp;omega);rw[this]
     rw[e1]
    ·simp only[Yd,YA,YN,List.length_cons,List.length_nil,hdl,hcsl,hC1l];omega
theorem ZV0 (hm:MK x m w) (hg:nth m.Sg h=some g) (hs:nth x.S h=some s) (hr:g.r=Zci) (hT:g.T=Zb6)
  {l:List Zci.den} (hl:HEq g.l l) (hi:i<l.length):
  Calls prog 278 #[tipVal s,.int .i64 i,.int .i64 ((i:Int)+1)] w λe w'=>Made w w' e s x (delX l i):=by
 have ho:=hm.stg h g s hg hs;obtain⟨r,T,gl,gv,gf,gff,glit,gub⟩:=g;simp only at hr hT;subst hr;subst hT;have hl:=eq_of_heq hl;simp only at hl;subst hl;have hmax:maxLen=9223372036854775807:=rfl;have hn:=ho.n;simp only at hn;have hil:=ZV1 gl i hi;cases hb:s.blk with
 |none=>
  have h0:=ho.nil hb;omega
 |some pc=>
  obtain⟨p,cap⟩:=pc;obtain⟨C,c1,c2,c3,c4,_⟩:=ho.row p cap hb;obtain⟨hrows,_,_,_⟩:=RowsOk.of_tip ho c1 hb;simp only[wid2] at c2 hrows;simp only at c1;have ht:tipVal s=.slice (some ⟨p,0,none⟩) gl.length cap:=by simp[tipVal,hb,hn]
  rw[ht];have hcell:∀j,w.cell? ⟨p,j,none⟩=C[j]? :=λj=>Zaf c1 j
  obtain⟨cs,hcs⟩:∃cs,cs=C.take (gl.length*2):=⟨_,rfl⟩;rw[<-hcs] at hrows;have hcsl:cs.length=gl.length*2:=hrows.len;have h1c:∀v∈cs,v.oneCell'=true:=hrows.one (by decide);have h1z:∀v∈[Value.int .u16 0,Value.int .u8 0],v.oneCell'=true:=by simp[Value.oneCell']
  have hcsc:∀j v,cs[j]? =some v->w.cell? ⟨p,j,none⟩=some v:=λj v hj=>by
   rw[hcell];rw[hcs,YC] at hj;split at hj
   ·exact hj
   ·simp at hj
  refine (Z0R p gl.length cap i cs (.int .u16 0) (.int .u8 0) w hi (by omega) (by rw[hmax] at c4;omega) hcsl ZS1 (by simp[Builtin.zeroCells,Value.cells];rfl) h1z hcsc (λj _=>Zfv c1 j) h1c).mono ?_;rintro e w' ⟨rfl,rfl⟩;have hdl:(cs.drop ((i+1)*2)).length=(gl.length-(i+1))*2:=by rw[YN,hcsl];omega
  have hh1:=Zbk (w:=w.drew) (b:=p) (o:=i*2) (vs:=cs.drop ((i+1)*2)) c1 (by rw[hdl];omega) (λv hv=>h1c v (Yav hv));obtain⟨C1,hC1⟩:∃C1,C1=C.take (i*2)++cs.drop ((i+1)*2)++C.drop (i*2+(cs.drop ((i+1)*2)).length):=⟨_,rfl⟩;rw[<-hC1] at hh1;have hC1l:C1.length=C.length:=by rw[hC1];simp only[Yd,YA,YN,hdl];omega
  have hh:=Zbk (w:=w.drew.setCells p (i*2) (cs.drop ((i+1)*2))) (b:=p) (o:=(gl.length-1)*2) (vs:=[.int .u16 0,.int .u8 0]) hh1 (by simp;omega) h1z;obtain⟨z1,z2,z3⟩:=Za1 p [.int .u16 0,.int .u8 0] ((gl.length-1)*2) (w.drew.setCells p (i*2) (cs.drop ((i+1)*2)));obtain⟨y1,y2,y3⟩:=Za1 p (cs.drop ((i+1)*2)) (i*2) w.drew;refine⟨z1.trans y1,z2.trans y2,z3.trans y3,by rw[Za0,Za0];exact Ye _,λk hk hkb=> ?_,p,cap,_,[.int .u16 0,.int .u8 0]++C1.drop ((gl.length-1)*2+[Value.int .u16 0,.int .u8 0].length),.inl ⟨cap,hb⟩,?_,?_,by rw[hil];omega,c4,ZVZ hrows i,by rw[hil]⟩
  ·have:k≠p:=λe=>hkb cap (by rw[e,hb])
   rw[ZaE p _ _ _ k this,ZaE p _ _ _ k this];rfl
  ·rw[hh];have e1:C1.take ((gl.length-1)*2)=cs.take (i*2)++cs.drop ((i+1)*2):=by refine Zs0 (B:=C.drop (i*2+(cs.drop ((i+1)*2)).length)) ?_ (by simp;omega);rw[hC1,hcs,List.take_take,YaS (by omega)]
   rw[e1];simp
  ·simp only[Yd,YA,YN,List.length_cons,List.length_nil,hdl,hcsl,hC1l,c2];omega
theorem Z2m:Za prog 279 insE:=by
 refine⟨Tryz.call279,λvs m=> ?_,λvs m q hp hc x w args hm hv=> ?_⟩
 ·simp only;split
  ·split
   ·rename_i g g2 hg hg2;split
    ·split
     ·intro q hq;simp only[oinj] at hq;subst hq;exact ZpL (ZW hg).1 rfl
     ·intro q hq;simp at hq
    ·intro q hq;simp at hq
   ·intro q hq;simp at hq
  ·intro q hq;simp at hq
 ·simp only at hp;split at hp
  ·rename_i h ver lit i h2 ver2;split at hp
   ·rename_i g g2 hg hg2;split at hp
    ·rename_i _ _ _ e e2 he he2 hcond;split at hp
     ·rename_i c hc1;simp only[RT.val,oinj] at hp;subst hp;simp only[Yb,Yr,YK] at hcond;obtain⟨⟨⟨hf,hT⟩,hT2⟩,hne⟩:=hcond;have hne:h≠h2:=λe=>by rw[e,Nat.beq_refl] at hne;simp at hne
      obtain⟨hg,hgv⟩:=ZW hg;obtain⟨hg2,hgv2⟩:=ZW hg2
      match args,hv with
      |[v,vi,v2],hv=>
       obtain⟨s,hs,hso,rfl⟩:=ZfI hm.toR hv.1 (by unfold ZaT;rw[hg];simp[hgv]:ZaT m h ver=some g);obtain⟨s2,hs2,hso2,rfl⟩:=ZfI hm.toR hv.2.2.1 (by unfold ZaT;rw[hg2];simp[hgv2]:ZaT m h2 ver2=some g2);have hvi:RA x (.int lit .i64 i) vi:=hv.2.1;cases hvi;simp only[Zjn] at hc;have hck:(decide (0<=i)&&decide (i<=((e.slc.cast g.l).length:Int))&&Nat.ble ((e.slc.cast g.l).length+1) most)=true:=by
        cases hb:(decide (0<=i)&&decide (i<=((e.slc.cast g.l).length:Int))&&Nat.ble ((e.slc.cast g.l).length+1) most) with
        |true=>rfl
        |false=>rw[hb] at hc;exact absurd rfl hc
       simp only[Yb,Yk,YP] at hck;obtain⟨⟨k1,k2⟩,k3⟩:=hck;have hi:(i.toNat:Int)=i:=by omega
       obtain⟨r2,T2,l2,gv2,gf2,gff2,glit2,gub2⟩:=g2;cases e2;simp only[EqR.slc,EqR.cast] at hc1;simp only at hT2;subst hc1;subst hT2;have hn2:s2.n=1:=hso2.n;cases hb2:s2.blk with
       |none=>have:=(hso2.nil hb2).1;omega
       |some pc=>
        obtain⟨pv,cv⟩:=pc;obtain⟨Cf,c1,_⟩:=hso2.row pv cv hb2;obtain⟨hrows2,_,_,_⟩:=RowsOk.of_tip hso2 c1 hb2;simp only[List.length_singleton] at hrows2;obtain⟨u0,u1,hu⟩:=Z1h hrows2;rw[hu] at hrows2;have hCf:Cf=[u0,u1]++Cf.drop (1*Zci.wid):=by rw[<-hu,Yai]
        rw[hCf] at c1;have hv2:tipVal s2=.slice (some ⟨pv,0,none⟩) 1 cv:=by simp[tipVal,hb2,hn2]
        rw[hv2,<-hi];have hgr:g.r=Zci:=R.same_eq he;have key:=ZVG hm hg hs hgr hT (l:=e.slc.cast g.l) (by cases g;simp only at hgr;subst hgr;cases e;rfl) (i:=i.toNat) (by omega) k3 hrows2 c1 (cv:=cv) (λcap hb=>hne (hm.sinj h h2 s s2 pv cap cv hs hs2 hb hb2));refine key.mono λe' w' hd=> ?_
        rw[Int.toNat_natCast];exact ZRZ hm hg hs hf hgr hT hd
      |[],hv=>exact hv.elim
      |[_],hv=>exact hv.2.elim
      |[_,_],hv=>exact hv.2.2.elim
      |_::_::_::_::_,hv=>exact hv.2.2.2.elim
     ·simp[RT.val] at hp
    ·simp[RT.val] at hp
   ·simp[RT.val] at hp
  ·simp[RT.val] at hp
theorem Z2p:Za prog 278 delE:=by
 refine⟨Tryz.call278,λvs m=> ?_,λvs m q hp hc x w args hm hv=> ?_⟩
 ·simp only;split
  ·split
   ·rename_i g hg;split
    ·intro q hq;simp only[oinj] at hq;subst hq;exact ZpL (ZW hg).1 rfl
    ·intro q hq;simp at hq
   ·intro q hq;simp at hq
  ·intro q hq;simp at hq
 ·simp only at hp;split at hp
  ·rename_i h ver lit i lit2 j;split at hp
   ·rename_i g hg;split at hp
    ·rename_i _ _ e he hcond;simp only[RT.val,oinj] at hp;subst hp;simp only[Yb,Yr,YK] at hcond;obtain⟨hf,hT⟩:=hcond;obtain⟨hg,hgv⟩:=ZW hg
     match args,hv with
     |[v,vi,vj],hv=>
      obtain⟨s,hs,hso,rfl⟩:=ZfI hm.toR hv.1 (by unfold ZaT;rw[hg];simp[hgv]:ZaT m h ver=some g);have hvi:RA x (.int lit .i64 i) vi:=hv.2.1;have hvj:RA x (.int lit2 .i64 j) vj:=hv.2.2.1;cases hvi;cases hvj;simp only[Zjn] at hc;have hck:(decide (0<=i)&&decide (i<((e.slc.cast g.l).length:Int))&&decide (j=i+1))=true:=by
       cases hb:(decide (0<=i)&&decide (i<((e.slc.cast g.l).length:Int))&&decide (j=i+1)) with
       |true=>rfl
       |false=>rw[hb] at hc;exact absurd rfl hc
      simp only[Yb,Yk] at hck;obtain⟨⟨k1,k2⟩,rfl⟩:=hck;have hi:(i.toNat:Int)=i:=by omega
      rw[<-hi];have hgr:g.r=Zci:=R.same_eq he;have key:=ZV0 hm hg hs hgr hT (l:=e.slc.cast g.l) (by cases g;simp only at hgr;subst hgr;cases e;rfl) (i:=i.toNat) (by omega);refine key.mono λe' w' hd=> ?_
      rw[Int.toNat_natCast];exact ZRZ hm hg hs hf hgr hT hd
     |[],hv=>exact hv.elim
     |[_],hv=>exact hv.2.elim
     |[_,_],hv=>exact hv.2.2.elim
     |_::_::_::_::_,hv=>exact hv.2.2.2.elim
    ·simp[RT.val] at hp
   ·simp[RT.val] at hp
  ·simp[RT.val] at hp
end
end Go.Proofs.YtpnjbfjomebppaaGreat
open Go Go.S3 Go.Proofs
namespace Go.Proofs.YtpnjbfjomebppaaGreat
noncomputable section
def ZdP:En:=.tree (ZM (envX prog [] [] 7 8) Tryz.f235)
theorem Zf3:Za prog 235 ZdP:=Zad trivial Tryz.func235 rfl (by kernel_rfl) Tryz.call235 trivial
abbrev ZWA:List Sh:=[So Kb,So Kb]
abbrev ZWB:Rs:=Rs.one (So Kc)
def ZNM (x:Int) (y:Int):RT (Int):=
 .br (x !=x) (.br (y !=y) (.Lf (0)) (.Lf (-1))) (.br (y !=y) (.Lf (1)) (.br (decide (x<y)) (.Lf (-1)) (.br (decide (x>y)) (.Lf (1)) (.Lf (0)))))
def uCmp (x:Int) (y:Int):Int:=(ZNM x y).val
def ZYE:En:=Zg ZWA ZWB (λ_=>none) (λa=>uCmp a.1 a.2)
theorem ZNK:Za prog 161 ZYE:=
 pureQ 127 [(235,ZdP)] [] ZWA ZWB ⟨Zf3,Tv⟩ Tryz.func161 Tryz.call161 trivial (t:=λa=>ZNM a.1 a.2)
abbrev ZNC:List Sh:=[Sh.agg (R.Pq Kb Ka),Sh.agg (R.Pq Kb Ka)]
def ZND (a:Int×Int) (b:Int×Int):RT (Int):=
 .Lf (uCmp a.1 b.1)
def Zqq (a:Int×Int) (b:Int×Int):Int:=(ZND a b).val
def ZbA:En:=Zg ZNC ZWB (λ_=>none) (λa=>Zqq a.1 a.2)
theorem Zav:Za prog 160 ZbA:=
 pureQ 31 [(161,ZYE)] [] ZNC ZWB ⟨ZNK,Tv⟩ Tryz.func160 Tryz.call160 trivial (t:=λa=>ZND a.1 a.2)
abbrev ZsU:Nat:=75
abbrev ZAT:List Sh:=[So Kc,So Kc,So Kc]
def ZTK:LS:={n:=38,Sl:=[(0,.tip 0),(1,.code (So Kc)),(2,.code (So Kc)),(3,.code (So Kc)),(10,.code (So Kc))],Bx:=[],Sg:=[⟨R.Pq Kb Ka,75,false⟩],keep:=[0]}
def Ziv (a:QT8):RT (Option (Go1 (QT8))):=
 let x1:=Ze (i64.wrap (a.2.1+a.2.2.2.1)) (Le a.2.2.2.2.1)
 let x2:= !x1
 let x3:=Ze (i64.wrap (a.1+a.2.2.2.1)) (Le a.2.2.2.2.1)
 let x4:= !x3
 let x5:=setI a.2.2.2.2.1 (i64.wrap (a.1+a.2.2.2.1)) (R.get (R.Pq Kb Ka) a.2.2.2.2.1 (i64.wrap (a.2.1+a.2.2.2.1)))
 let x6:=x2||(x4||(x4||Ze (i64.wrap (a.2.1+a.2.2.2.1)) (Le x5)))
 let x7:= !x6
 let x8:=x2||(x4||x3)
 let x9:= !x8
 let x10:=x2||x3
 .br (decide (a.2.2.2.1<a.2.2.1)) (.br (x7||(x9||(!x10||x1))) (.br (x7||(x9||x10)) (.br (x7||x8) (.br (x6) (Ls (Go1.cont (a.1,a.2.1,a.2.2.1,i64.wrap (a.2.2.2.1+1),setI x5 (i64.wrap (a.2.1+a.2.2.2.1)) (R.get (R.Pq Kb Ka) a.2.2.2.2.1 (i64.wrap (a.1+a.2.2.2.1))),PUnit.unit))) Ln) Ln) Ln) Ln) (Ls (Go1.brk (a.1,a.2.1,a.2.2.1,a.2.2.2.1,a.2.2.2.2.1,PUnit.unit)))
def ZFS:Ora:=ZaB false ZTK Ziv (λa=>(a.2.2.1-a.2.2.2.1).toNat+1)
theorem ZIT:Zal (envX prog [(160,ZbA)] [] 2047 8) (.block 0 (.loop (ZQ Tryz.f388.body 0))) ZFS:=
 loopP ⟨Zav,Tv⟩
def ZxD (s:List (Int×Int)) (a:Int) (b:Int) (n:Int):RT (Option (List (Int×Int))):=
 let x1:QT8:=(a,b,n,0,Stg.l (Zde Zci ZsU s),())
 let x2:=runF false Ziv (λa_1=>Int.toNat (a_1.2.2.1-a_1.2.2.2.1)+1) x1
 .br (okB x2) (Ls (getO (false,x1) x2).2.2.2.2.2.1) Ln
def Z1a (s:List (Int×Int)) (a:Int) (b:Int) (n:Int):List (Int×Int):=getO [] (ZxD s a b n).val
def ZWx (s:List (Int×Int)) (a:Int) (b:Int) (n:Int):Bool:=okB (ZxD s a b n).val
def Z09:En:=stE Zci ZsU 160 ZAT (λa=>some (ZWx a.1 a.2.1 a.2.2.1 a.2.2.2)) (λa=>Z1a a.1 a.2.1 a.2.2.1 a.2.2.2)
theorem ZTJ:Za prog 388 Z09:=
 ZmL (P:=prog) (n:=2047) (k:=8) (l:=[(160,ZbA)]) (ol:=[(0,ZFS)]) ⟨Zav,Tv⟩ Tryz.func388 rfl (by kernel_rfl) Tryz.call388 ⟨ZIT,Tv⟩ (r:=Zci) (T:=ZsU) (g0:=160) (ts:=ZAT) (t:=λa=>ZxD a.1 a.2.1 a.2.2.1 a.2.2.2) (λa=>by kernel_rfl)
abbrev ZNF:List Sh:=[So Kc,So Kc]
def ZYC:LS:={n:=53,Sl:=[(0,.tip 0),(1,.code (So Kc)),(2,.code (So Kc)),(3,.fix (A.clo 160 [])),(8,.code (So Kc)),(9,.code (So Kc))],Bx:=[],Sg:=[⟨R.Pq Kb Ka,75,false⟩],keep:=[0]}
def ZhP (a:QT8):RT (Option (Go1 (QT8))):=
 let x1:= !Ze a.2.2.2.1 (Le a.2.2.2.2.1)
 let x2:=Ze (i64.wrap (a.2.2.2.1-1)) (Le a.2.2.2.2.1)
 let x3:Int×Int:=R.get (R.Pq Kb Ka) a.2.2.2.2.1 a.2.2.2.1
 let x4:Int×Int:=R.get (R.Pq Kb Ka) a.2.2.2.2.1 (i64.wrap (a.2.2.2.1-1))
 let x5:= !x2
 let x6:=setI a.2.2.2.2.1 a.2.2.2.1 x4
 let x7:=x5||(x1||(x1||Ze (i64.wrap (a.2.2.2.1-1)) (Le x6)))
 let x8:= !x7
 let x9:=x5||(x1||Ze a.2.2.2.1 (Le a.2.2.2.2.1))
 let x10:= !x9
 let x11:=x5||Ze a.2.2.2.1 (Le a.2.2.2.2.1)
 .br (!decide (a.2.2.2.1>a.1)||(x1||x2)) (.br (!decide (a.2.2.2.1>a.1)||Ze a.2.2.2.1 (Le a.2.2.2.2.1)) (.br (decide (a.2.2.2.1>a.1)&&decide (Zqq x3 x4<0)) (.br (x8||(x10||(!x11||x2))) (.br (x8||(x10||x11)) (.br (x8||x9) (.br (x7) (Ls (Go1.cont (a.1,a.2.1,a.2.2.1,i64.wrap (a.2.2.2.1-1),setI x6 (i64.wrap (a.2.2.2.1-1)) x3,PUnit.unit))) Ln) Ln) Ln) Ln) (Ls (Go1.brk (a.1,a.2.1,a.2.2.1,a.2.2.2.1,a.2.2.2.2.1,PUnit.unit)))) Ln) Ln
def ZsX:Ora:=ZaB false ZYC ZhP (λa=>(a.2.2.2.1-a.1).toNat+1)
theorem ZxJ:Zal (envX prog [(160,ZbA)] [] 1023 8) (.block 2 (.loop (ZQ Tryz.f304.body 2))) ZsX:=
 loopP ⟨Zav,Tv⟩
def ZYB:LS:={n:=53,Sl:=[(0,.tip 0),(1,.code (So Kc)),(2,.code (So Kc)),(3,.fix (A.clo 160 [])),(8,.code (So Kc))],Bx:=[],Sg:=[⟨R.Pq Kb Ka,75,false⟩],keep:=[0]}
def ZmE (a:QT10):RT (Option (Go1 (QT10))):=
 let x1:QT8:=(a.1,a.2.1,a.2.2.1,a.2.2.1,a.2.2.2.1,())
 let x2:=runF false ZhP (λa_1=>Int.toNat (a_1.2.2.2.1-a_1.1)+1) x1
 let x3:QT8:=(getO (false,x1) x2).2
 let x4:=x3.2
 let x5:=x4.2
 .br (decide (a.2.2.1<a.2.1)) (.br (okB x2) (Ls (Go1.cont (x3.1,x4.1,i64.wrap (x5.1+1),x5.2.2.1,PUnit.unit))) Ln) (Ls (Go1.brk (a.1,a.2.1,a.2.2.1,a.2.2.2.1,PUnit.unit)))
def ZNI:Ora:=ZaB false ZYB ZmE (λa=>(a.2.1-a.2.2.1).toNat+1)
theorem ZNH:Zal (envX prog [(160,ZbA)] [(2,ZsX)] 1023 8) (.block 0 (.loop (ZQ Tryz.f304.body 0))) ZNI:=
 ZgB (Zbv (l:=[(160,ZbA)]) ⟨Zav,Tv⟩ [(2,ZsX)] 1023 8) (Zfq (by kernel_rfl) (by kernel_rfl) ⟨ZxJ,Tv⟩) (λa=>by kernel_rfl)
def ZNG (s:List (Int×Int)) (a:Int) (b:Int):RT (Option (List (Int×Int))):=
 let x1:QT10:=(a,b,i64.wrap (a+1),Stg.l (Zde Zci ZsU s),())
 let x2:=runF false ZmE (λa_1=>Int.toNat (a_1.2.1-a_1.2.2.1)+1) x1
 .br (okB x2) (Ls (getO (false,x1) x2).2.2.2.2.1) Ln
def uIns (s:List (Int×Int)) (a:Int) (b:Int):List (Int×Int):=getO [] (ZNG s a b).val
def Z1e (s:List (Int×Int)) (a:Int) (b:Int):Bool:=okB (ZNG s a b).val
def uInsE:En:=stE Zci ZsU 160 ZNF (λa=>some (Z1e a.1 a.2.1 a.2.2)) (λa=>uIns a.1 a.2.1 a.2.2)
theorem ZYA:Za prog 304 uInsE:=
 ZmL (P:=prog) (n:=1023) (k:=8) (l:=[(160,ZbA)]) (ol:=[(2,ZsX),(0,ZNI)]) ⟨Zav,Tv⟩ Tryz.func304 rfl (by kernel_rfl) Tryz.call304 ⟨ZxJ,ZNH,Tv⟩ (r:=Zci) (T:=ZsU) (g0:=160) (ts:=ZNF) (t:=λa=>ZNG a.1 a.2.1 a.2.2) (λa=>by kernel_rfl)
end
end Go.Proofs.YtpnjbfjomebppaaGreat
open Go.S3
namespace Go.Proofs.Cells
theorem ZpP {r:R} (X:List r.den) (x:r.den) (Y:List r.den) (i:Int) (h:i=X.length):R.get r (X++x::Y) i=x:=by subst h;simp[R.get,Yq]
variable {α:Type}
theorem Zs9 (X:List α) (x y:α) (Y:List α) (i:Int) (h:i=X.length):setI (X++x::Y) i y=X++y::Y:=by subst h;simp[setI]
theorem ZF2 (X:List α) (p q:α) (M Y:List α) (i j:Int) (hi:i=X.length) (hj:j=X.length+1+M.length):
  setI (setI (X++p::(M++q::Y)) i q) j p=X++q::(M++p::Y):=by
 rw[Zs9 X p q _ i hi];have e:X++q::(M++q::Y)=(X++q::M)++q::Y:=by simp
 rw[e,Zs9 (X++q::M) q p Y j (by simp;omega)];simp
theorem ZxM (X:List α) (p q:α) (M Y:List α) (i j:Int) (hi:i=X.length) (hj:j=X.length+1+M.length):
  setI (setI (X++p::(M++q::Y)) j p) i q=X++q::(M++p::Y):=by
 have e:X++p::(M++q::Y)=(X++p::M)++q::Y:=by simp
 rw[e,Zs9 (X++p::M) q p Y j (by simp;omega)];have e:(X++p::M)++p::Y=X++p::(M++p::Y):=by simp
 rw[e,Zs9 X p q _ i hi]
theorem ZEG (x:Cell):∀(P Q:List Cell),(∀y∈P,y.1<=x.1)->(∀y∈Q,x.1<y.1)->ins x (P++Q)=P++x::Q
 |[],[],_,_=>rfl
 |[],q::Q,_,h=>by simp[ins,h q (by simp)]
 |p::P,Q,h1,h2=>by have:=h1 p (by simp);simp only[List.cons_append,ins];rw[YZ (by omega),ZEG x P Q (λy hy=>h1 y (by simp[hy])) h2]
theorem ZbN (l:List α) (n:Nat) (h:n<=l.length):∃a b,l=a++b/\a.length=n:=⟨l.take n,l.drop n,(Yai n l).symm,by simp;omega⟩
end Go.Proofs.Cells
open Go Go.S3 Go.Proofs Go.Proofs.Cells
namespace Go.Proofs.YtpnjbfjomebppaaGreat
noncomputable section
theorem Zlu (a b:Cell):decide (Zqq a b<0)=decide (a.1<b.1):=by
 simp only[Zqq,ZND,uCmp,ZNM,RT.val,YaM,Yc];by_cases h:a.1<b.1
 ·simp[h]
 ·by_cases h2:a.1>b.1<;>simp[h,h2]
theorem ZxI (a b:Cell):(!decide (Zqq a b<0))=decide (b.1<=a.1):=by rw[Zlu];by_cases h:a.1<b.1<;>simp[h]<;>omega
theorem ml:(maxLen:Int)<=9223372036854775807:=by decide
abbrev CR:R:=R.Pq Kb Ka
variable {α:Type}
theorem Zte (X:List α) (p:α) (Y:List α) (i:Int) (h:i=X.length):Ze i (X++p::Y).length=true:=ZF.2 (by subst h;simp;omega)
theorem Zlw (X:List α) (p q:α) (M Y:List α) (j:Int) (h:j=X.length+1+M.length):Ze j (X++p::(M++q::Y)).length=true:=ZF.2 (by subst h;simp;omega)
theorem ZlY (X:List Cell) (p q:Cell) (M Y:List Cell) (j:Int) (h:j=X.length+1+M.length):R.get CR (X++p::(M++q::Y)) j=q:=by
 have e:X++p::(M++q::Y)=(X++p::M)++q::Y:=by simp
 rw[e];exact ZpP (r:=CR) _ _ _ _ (by simp;omega)
theorem ZpD (l:List α) (i:Int) (x:α):(setI l i x).length=l.length:=by simp[setI]
theorem ZTT (X U M V Y:List Cell) (h:V.length=U.length) (hm:((X++U++M++V++Y).length:Int)<=maxLen):
  (ZxD (X++U++M++V++Y) X.length (X.length+U.length+M.length) U.length).val=some (X++V++M++U++Y):=by
 have hml:=ml;simp only[Yd] at hm;obtain⟨r,hr,hR⟩:=ZC (fl:=false) (t:=Ziv) (fuel:=λa=>Int.toNat (a.2.2.1-a.2.2.2.1)+1)
  (I:=λa=>∃i:Nat,i<=U.length/\a=((X.length:Int),(X.length:Int)+U.length+M.length,(U.length:Int),(i:Int),X++V.take i++U.drop i++M++U.take i++V.drop i++Y,()))
  (m:=λa=>Int.toNat (a.2.2.1-a.2.2.2.1)) (R:=λr=>r.2.2.2.2.2.1=X++V++M++U++Y)
  (λa hi=>by
   obtain⟨i,hi,rfl⟩:=hi;by_cases hlt:i<U.length
   ·left;obtain⟨p,hp⟩:∃p,U.drop i=p::U.drop (i+1):=⟨U[i],by rw[Yak hlt]⟩;obtain⟨q,hq⟩:∃q,V.drop i=q::V.drop (i+1):=⟨V[i]'(by omega),by rw[Yak (by omega)]⟩;have hp':U.take (i+1)=U.take i++[p]:=by rw[Yat];congr 1;have:=congrArg List.head? hp;simp[List.head?_drop] at this;rw[this];rfl
    have hq':V.take (i+1)=V.take i++[q]:=by rw[Yat];congr 1;have:=congrArg List.head? hq;simp[List.head?_drop] at this;rw[this];rfl
    have e0:X++V.take i++U.drop i++M++U.take i++V.drop i++Y=(X++V.take i)++p::((U.drop (i+1)++M++U.take i)++q::(V.drop (i+1)++Y)):=by rw[hp,hq];simp
    have e1:X++V.take (i+1)++U.drop (i+1)++M++U.take (i+1)++V.drop (i+1)++Y=(X++V.take i)++q::((U.drop (i+1)++M++U.take i)++p::(V.drop (i+1)++Y)):=by rw[hp',hq'];simp
    have l1:(V.take i).length=i:=by simp;omega
    have l2:(U.drop (i+1)++M++U.take i).length+1=U.length+M.length:=by simp;omega
    have a1:((X.length:Int)+i)=(X++V.take i).length:=by rw[Yd,l1];omega
    have a2:((X.length:Int)+U.length+M.length+i)=(X++V.take i).length+1+(U.drop (i+1)++M++U.take i).length:=by rw[Yd,l1];omega
    refine⟨_,?_,⟨i+1,hlt,rfl⟩,by simp;omega⟩;rw[e0,e1];have w1:IntKind.wrap .i64 ((X.length:Int)+i)=(X++V.take i).length:=by rw[wrap_i64 _ (by omega) (by omega),a1]
    have w2:IntKind.wrap .i64 ((X.length:Int)+U.length+M.length+i)=(X++V.take i).length+1+(U.drop (i+1)++M++U.take i).length:=by rw[wrap_i64 _ (by omega) (by omega),a2]
    have w3:IntKind.wrap .i64 ((i:Int)+1)=((i+1:Nat):Int):=by rw[wrap_i64 _ (by omega) (by omega)];simp
    have d1:decide ((i:Int)<(U.length:Int))=true:=by simpa using hlt
    have g1:R.get CR ((X++V.take i)++p::((U.drop (i+1)++M++U.take i)++q::(V.drop (i+1)++Y))) ((X++V.take i).length:Int)=p:=ZpP (r:=CR) _ _ _ _ rfl;have g2:=ZlY (X++V.take i) p q (U.drop (i+1)++M++U.take i) (V.drop (i+1)++Y) _ rfl;have r1:=Zte (X++V.take i) p ((U.drop (i+1)++M++U.take i)++q::(V.drop (i+1)++Y)) _ rfl;have r2:=Zlw (X++V.take i) p q (U.drop (i+1)++M++U.take i) (V.drop (i+1)++Y) _ rfl;have s1:=ZF2 (X++V.take i) p q (U.drop (i+1)++M++U.take i) (V.drop (i+1)++Y) _ _ rfl rfl;simp only[Ziv,RT.val,w1,w2,w3,d1,g1,g2,r1,r2,s1,ZpD,Ya,Yg,Yf,Yj,YF,Yc]
   ·right;left;have:i=U.length:=by omega
    subst this;refine⟨((X.length:Int),(X.length:Int)+U.length+M.length,(U.length:Int),(U.length:Int),X++V.take U.length++U.drop U.length++M++U.take U.length++V.drop U.length++Y,()),?_,?_⟩
    ·have d1:decide ((U.length:Int)<(U.length:Int))=false:=by simp
     simp only[Ziv,RT.val,d1,Yc]
    ·have e1:V.take U.length=V:=Y4 (by omega);have e2:V.drop U.length=[]:=Y2 (by omega)
     simp[e1,e2])
  ((X.length:Int),(X.length:Int)+U.length+M.length,(U.length:Int),0,X++U++M++V++Y,()) ⟨0,Ys _,by simp⟩ (Yaw _)
 simp only[ZxD,Zde,RT.val,hr,okB,getO,Ya,hR]
def ZA1 (l:List Cell) (a b n:Nat):List Cell:=l.take a++(l.drop b).take n++(l.drop (a+n)).take (b-a-n)++(l.drop a).take n++l.drop (b+n)
theorem Z1P (l:List α) (a b n:Nat) (h1:a+n<=b) (h2:b+n<=l.length):∃X U M V Y:List α,l=X++U++M++V++Y/\X.length=a/\U.length=n/\M.length=b-a-n/\V.length=n:=by obtain⟨X,l1,rfl,hX⟩:=ZbN l a (by omega);simp only[Yd] at h2;obtain⟨U,l2,rfl,hU⟩:=ZbN l1 n (by omega);simp only[Yd] at h2;obtain⟨M,l3,rfl,hM⟩:=ZbN l2 (b-a-n) (by omega);simp only[Yd] at h2;obtain⟨V,Y,rfl,hV⟩:=ZbN l3 n (by omega);exact⟨X,U,M,V,Y,by simp,hX,hU,hM,hV⟩
theorem ZF3 (X U M V Y:List Cell) (h:V.length=U.length):ZA1 (X++U++M++V++Y) X.length (X.length+U.length+M.length) U.length=X++V++M++U++Y:=by
 unfold ZA1;have e1:(X++U++M++V++Y).take X.length=X:=by simp[Yo]
 have e2:((X++U++M++V++Y).drop (X.length+U.length+M.length)).take U.length=V:=by
  have:X++U++M++V++Y=(X++U++M)++(V++Y):=by simp
  rw[this,Y9 (by simp;omega),<-h,Yal rfl]
 have e3:((X++U++M++V++Y).drop (X.length+U.length)).take (X.length+U.length+M.length-X.length-U.length)=M:=by
  have:X++U++M++V++Y=(X++U)++(M++(V++Y)):=by simp
  rw[this,Y9 (by simp),Yal (by omega)]
 have e4:((X++U++M++V++Y).drop X.length).take U.length=U:=by
  have:X++U++M++V++Y=X++(U++(M++(V++Y))):=by simp
  rw[this,Y9 rfl,Yal rfl]
 have e5:(X++U++M++V++Y).drop (X.length+U.length+M.length+U.length)=Y:=by exact Y9 (by simp;omega)
 rw[e1,e2,e3,e4,e5]
def Zhw (l:List Cell) (a b n:Int):Bool:=decide (0<=a)&&decide (0<=n)&&decide (a+n<=b)&&decide (b+n<=l.length)
def ZAU:En:=stE Zci ZsU 160 ZAT (λa=>some (Zhw a.1 a.2.1 a.2.2.1 a.2.2.2)) (λa=>ZA1 a.1 a.2.1.toNat a.2.2.1.toNat a.2.2.2.toNat)
theorem Zf8 {P:Program} {f:FuncId} {r:R} {T:TypeId} {g0:FuncId} {ts:List Sh} {pre pre':List r.den×HL ts->Option Bool} {F G:List r.den×HL ts->List r.den} (h:Za P f (stE r T g0 ts pre F))
  (hp:∀a,(R.sl r).ok a.1->okHL ts a.2->pre' a≠some false->pre a≠some false/\F a=G a):Za P f (stE r T g0 ts pre' G):=Za.st_congr h hp
theorem ZxE:Za Tryz.prog 388 ZAU:=Zf8 ZTJ λa h1 h2 hp=>by
 obtain⟨l,a,b,n⟩:=a;have hp:Zhw l a b n=true:=by cases h:Zhw l a b n<;>simp_all
 simp only[Zhw,Yb,Yk] at hp;obtain⟨⟨⟨p1,p2⟩,p3⟩,p4⟩:=hp;have hlen:l.length<=maxLen:=h1.1;obtain⟨a,rfl⟩:=YY p1;obtain⟨n,rfl⟩:=YY p2;obtain⟨b,rfl⟩:=YY (show (0:Int)<=b by omega);obtain⟨X,U,M,V,Y,rfl,rfl,rfl,hM,hV⟩:=Z1P l a b n (by omega) (by omega);have hb:b=X.length+U.length+M.length:=by omega
 subst hb;have:=ZTT X U M V Y hV (by exact_mod_cast hlen);simp only[ZWx,Z1a,Int.toNat_natCast]
 push_cast at this|-
 rw[this,ZF3 X U M V Y hV];simp[okB,getO]
theorem ZSr (X T Rr:List Cell) (x:Cell) (b i:Int) (hT:Srt T) (hm:((X++T++x::Rr).length:Int)<=maxLen):
  ∃r,runF false ZhP (λa=>Int.toNat (a.2.2.2.1-a.1)+1) ((X.length:Int),b,i,(X.length:Int)+T.length,X++T++x::Rr,())=some r/\∃j,r.2=((X.length:Int),b,i,j,X++ins x T++Rr,()):=by
 have hml:=ml;simp only[Yd,List.length_cons] at hm;refine ZC (fl:=false) (t:=ZhP) (fuel:=λa=>Int.toNat (a.2.2.2.1-a.1)+1)
  (I:=λa=>∃P Q:List Cell,T=P++Q/\(∀y∈Q,x.1<y.1)/\a=((X.length:Int),b,i,(X.length:Int)+P.length,X++P++x::(Q++Rr),()))
  (m:=λa=>Int.toNat (a.2.2.2.1-a.1)) (R:=λr=>∃j,r.2=((X.length:Int),b,i,j,X++ins x T++Rr,()))
  (λa hi=> ?_) _ ⟨T,[],by simp,by simp,by simp⟩ (Yaw _)
 obtain⟨P,Q,hPQ,hQ,rfl⟩:=hi;have hlen:T.length=P.length+Q.length:=by rw[hPQ];simp
 rcases Yar P with rfl|⟨P',y,hc⟩
 ·right;left;refine⟨((X.length:Int),b,i,(X.length:Int)+(([]:List Cell).length:Int),X++ins x T++Rr,()),?_,_,rfl⟩;have e:X++ins x T++Rr=X++x::(Q++Rr):=by rw[hPQ,List.nil_append,show ins x Q=x::Q from by have:=ZEG x [] Q (by simp) hQ;simpa using this];simp
  have d:decide ((X.length:Int)+(([]:List Cell).length:Int)>X.length)=false:=by simp
  rw[e];simp only[ZhP,RT.val,d,Ym,Yt,Ya,Y1,Yc,YR]
 ·rw[Yas] at hc;subst hc;have hl1:(P'++[y]).length=P'.length+1:=by simp
  have d:decide ((X.length:Int)+((P'++[y]).length:Int)>X.length)=true:=by simp;omega
  have e0:X++(P'++[y])++x::(Q++Rr)=(X++P')++y::([]++x::(Q++Rr)):=by simp
  have w1:IntKind.wrap .i64 ((X.length:Int)+((P'++[y]).length:Int)-1)=(X++P').length:=by rw[wrap_i64 _ (by simp;omega) (by simp;omega)];simp;omega
  have w2:((X.length:Int)+((P'++[y]).length:Int))=(X++P').length+1+(([]:List Cell).length:Int):=by simp;omega
  have g1:R.get CR ((X++P')++y::([]++x::(Q++Rr))) ((X++P').length:Int)=y:=ZpP (r:=CR) _ _ _ _ rfl;have g2:=ZlY (X++P') y x [] (Q++Rr) _ rfl;have r1:=Zte (X++P') y ([]++x::(Q++Rr)) _ rfl;have r2:=Zlw (X++P') y x [] (Q++Rr) _ rfl;have s1:=ZxM (X++P') y x [] (Q++Rr) _ _ rfl rfl;by_cases hlt:x.1<y.1
  ·left;have u1:decide (Zqq x y<0)=true:=by rw[Zlu];simpa using hlt
   refine⟨((X.length:Int),b,i,(X.length:Int)+(P'.length:Int),X++P'++x::((y::Q)++Rr),()),?_,⟨P',y::Q,by rw[hPQ];simp,by simpa using ⟨hlt,λa b h=>hQ (a,b) h⟩,rfl⟩,by simp;omega⟩;have e9:X++P'++x::((y::Q)++Rr)=(X++P')++x::([]++y::(Q++Rr)):=by simp
   have w3:(X.length:Int)+(P'.length:Int)=((X++P').length:Int):=by simp
   rw[e0,e9,w3];rw[w2] at w1 d|-;simp only[ZhP,RT.val,w1,d,g1,g2,r1,r2,s1,u1,ZpD,Ya,Yg,Yf,Yj,YF,Yc,YW,YU]
  ·right;left;have u1:decide (Zqq x y<0)=false:=by rw[Zlu];simpa using hlt
   refine⟨((X.length:Int),b,i,(X.length:Int)+((P'++[y]).length:Int),X++(P'++[y])++x::(Q++Rr),()),?_,(X.length:Int)+((P'++[y]).length:Int),?_⟩
   ·rw[e0];rw[w2] at w1 d|-;simp only[ZhP,RT.val,w1,d,g1,g2,r1,r2,s1,u1,ZpD,Ya,Yg,Yf,Yj,YF,Yc,YW,YU,Y5]
   ·have hsrt:=hT;rw[hPQ] at hsrt;have hP:∀z∈P'++[y],z.1<=x.1:=λz hz=>by
     rcases Yaq.1 hz with hz|hz
     ·have:=(Yaa.1 (Yaa.1 hsrt).1).2.2 z hz y (by simp);omega
     ·simp at hz;subst hz;omega
    rw[hPQ,ZEG x (P'++[y]) Q hP hQ];simp
theorem Z0z (X L Y:List Cell) (hm:(X++L++Y).length+1<=maxLen):
  (ZNG (X++L++Y) X.length (X.length+L.length)).val=some (X++isort L++Y):=by
 have hml:=ml;have hmi:((X++L++Y).length:Int)+1<=maxLen:=by exact_mod_cast hm
 simp only[Yd] at hmi;have w0:IntKind.wrap .i64 ((X.length:Int)+1)=(X.length:Int)+((1:Nat):Int):=by rw[wrap_i64 _ (by omega) (by omega)];simp
 obtain⟨r,hr,hR⟩:=ZC (fl:=false) (t:=ZmE) (fuel:=λa=>Int.toNat (a.2.1-a.2.2.1)+1)
  (I:=λa=>∃k:Nat,(k<=L.length\/L.length=0/\k=1)/\1<=k/\a=((X.length:Int),(X.length:Int)+L.length,(X.length:Int)+(k:Int),X++isort (L.take k)++L.drop k++Y,()))
  (m:=λa=>Int.toNat (a.2.1-a.2.2.1)) (R:=λr=>r.2.2.2.2.1=X++isort L++Y)
  (λa hi=>by
   obtain⟨k,hk,hk1,rfl⟩:=hi;by_cases hlt:k<L.length
   ·left;obtain⟨x,hx⟩:∃x,L.drop k=x::L.drop (k+1):=⟨L[k],by rw[Yak hlt]⟩;have hx':L.take (k+1)=L.take k++[x]:=by rw[Yat];congr 1;have:=congrArg List.head? hx;simp[List.head?_drop] at this;rw[this];rfl
    have hil:∀l:List Cell,(isort l).length=l.length:=λl=>by
     have:∀(l acc:List Cell),(l.foldl (λa x=>ins x a) acc).length=acc.length+l.length:=by
      intro l
      induction l with
      |nil=>intro acc;simp
      |cons a l ih=>
       intro acc;rw[List.foldl_cons,ih];have:(ins a acc).length=acc.length+1:=by
        induction acc with
        |nil=>rfl
        |cons b acc ih2=>simp only[ins];split<;>simp[ih2]
       simp;omega
     simp[isort,this]
    have l1:(isort (L.take k)).length=k:=by rw[hil];simp;omega
    obtain⟨q,hq,j,hj⟩:=ZSr X (isort (L.take k)) (L.drop (k+1)++Y) x ((X.length:Int)+L.length) ((X.length:Int)+k) (ZbI _) (by simp only[Yd,List.length_cons,l1,YN];omega)
    have e0:X++isort (L.take k)++L.drop k++Y=X++isort (L.take k)++x::(L.drop (k+1)++Y):=by rw[hx];simp
    rw[l1] at hq;refine⟨((X.length:Int),(X.length:Int)+L.length,(X.length:Int)+((k+1:Nat):Int),X++isort (L.take (k+1))++L.drop (k+1)++Y,()),?_,⟨k+1,.inl hlt,by omega,rfl⟩,by simp;omega⟩;have d:decide ((X.length:Int)+(k:Int)<(X.length:Int)+L.length)=true:=by simp;omega
    have w1:IntKind.wrap .i64 ((X.length:Int)+(k:Int)+1)=(X.length:Int)+((k+1:Nat):Int):=by rw[wrap_i64 _ (by omega) (by omega)];push_cast;omega
    have e1:X++ins x (isort (L.take k))++(L.drop (k+1)++Y)=X++isort (L.take (k+1))++L.drop (k+1)++Y:=by rw[hx',ZLH];simp
    rw[e0];simp only[ZmE,RT.val,d,hq,okB,getO,Ya,hj,w1,e1]
   ·right;left;have d:decide ((X.length:Int)+(k:Int)<(X.length:Int)+L.length)=false:=by simp;omega
    refine⟨((X.length:Int),(X.length:Int)+L.length,(X.length:Int)+(k:Int),X++isort (L.take k)++L.drop k++Y,()),?_,?_⟩
    ·simp only[ZmE,RT.val,d,Yc]
    ·have e1:L.take k=L:=Y4 (by omega);have e2:L.drop k=[]:=Y2 (by omega)
     simp[e1,e2])
  ((X.length:Int),(X.length:Int)+L.length,(X.length:Int)+((1:Nat):Int),X++L++Y,()) ⟨1,by omega,by omega,by
   cases L with
   |nil=>simp[isort]
   |cons a l=>simp[isort,ins]⟩ (Yaw _)
 simp only[ZNG,Zde,RT.val,w0,hr,okB,getO,Ya,hR]
def Zdt (l:List Cell) (a b:Nat):List Cell:=l.take a++isort ((l.drop a).take (b-a))++l.drop b
theorem Zs3 (X L Y:List Cell):Zdt (X++L++Y) X.length (X.length+L.length)=X++isort L++Y:=by
 unfold Zdt;have e1:(X++L++Y).take X.length=X:=by simp[Yo]
 have e2:((X++L++Y).drop X.length).take (X.length+L.length-X.length)=L:=by rw[Yo,Y9 rfl,Yal (by omega)]
 have e3:(X++L++Y).drop (X.length+L.length)=Y:=Y9 (by simp);rw[e1,e2,e3]
theorem ZXs (l:List α) (a b:Nat) (h1:a<=b) (h2:b<=l.length):∃X L Y:List α,l=X++L++Y/\X.length=a/\X.length+L.length=b:=by obtain⟨X,l1,rfl,hX⟩:=ZbN l a (by omega);simp only[Yd] at h2;obtain⟨L,Y,rfl,hL⟩:=ZbN l1 (b-a) (by omega);exact⟨X,L,Y,by simp,hX,by omega⟩
def Zgd (l:List Cell) (a b:Int):Bool:=decide (0<=a)&&decide (a<=b)&&decide (b<=l.length)&&Nat.ble l.length most
def ZqZ:En:=stE Zci ZsU 160 ZNF (λa=>some (Zgd a.1 a.2.1 a.2.2)) (λa=>Zdt a.1 a.2.1.toNat a.2.2.toNat)
theorem Zlv:Za Tryz.prog 304 ZqZ:=Zf8 ZYA λa h1 h2 hp=>by
 obtain⟨l,a,b⟩:=a;have hp:Zgd l a b=true:=by cases h:Zgd l a b<;>simp_all
 simp only[Zgd,Yb,Yk,YP] at hp;obtain⟨⟨⟨p1,p2⟩,p3⟩,p4⟩:=hp;obtain⟨a,rfl⟩:=YY p1;obtain⟨b,rfl⟩:=YY (show (0:Int)<=b by omega);obtain⟨X,L,Y,rfl,rfl,rfl⟩:=ZXs l a b (by omega) (by omega);have:=Z0z X L Y (YS (Nat.add_le_add_right p4 1) (by decide));simp only[Z1e,uIns,Int.toNat_natCast]
 push_cast at this|-
 rw[this,Zs3];simp[okB,getO]
