/- Caches. -/
import Derived.Test.YtmhapcbjjpadnaaGreatGOb
import Derived.Test.YtmhapcbjjpadnaaGreatG3b
import Derived.Test.YtmhapcbjjpadnaaGreatG6b
import Derived.Test.YtmhapcbjjpadnaaGreatG8b
set_option linter.all false
set_option maxHeartbeats 4000000
set_option maxRecDepth 100000
namespace Go.Proofs.YtmhapcbjjpadnaaGreat
open Go Go.Sk Go.RowKit
theorem mE_self {E:cM} {u:Us} (h:(E u.page).2=mkN u):mE E u=E:=by
 funext j
 by_cases e:j=u.page
 ·subst e
  have h1:=aP1 (E:=E) (u:=u) h
  exact Prod.ext (aAW E u u.page) (h1.trans h.symm)
 ·exact sE e
theorem put_setU {c:Dc} (h:Ok c)(hm:fZ c) {m:Nat} {u u':Us} (h1:m<c.fr.length)(h2:c.fr.getD m none=some u)(hk:iF u'=iF u)(hn:mkN u'=mkN u):c.put m u'=c.setU m u':=by
 have hu:=h.use m u h1 h2
 have hM:=hm m u h1 h2
 simp only [iF,Prod.mk.injEq] at hk
 obtain⟨e1,e2,e3⟩:=hk
 have hE:mE (c.fl.getD u'.file aP).E u'=(c.fl.getD u'.file aP).E:=mE_self (by rw [e1,e2,hn];exact hM)
 unfold Dc.put Dc.mark
 have hs:(c.setU m u').fl=c.fl:=rfl
 rw [hs,hE]
 have :c.fl.set u'.file (eP (c.fl.getD u'.file aP) (c.fl.getD u'.file aP).E)=c.fl:=by
  apply List.ext_getElem?
  intro j
  rw [List.getElem?_set]
  split
  ·rename_i e
   subst e
   have hl:u'.file<c.fl.length:=by rw [e1];exact hu.file
   rw [if_pos hl,List.getD_eq_getElem?_getD,List.getElem?_eq_getElem hl];rfl
  ·rfl
 rw [this];rfl
end Go.Proofs.YtmhapcbjjpadnaaGreat
namespace Go.Proofs.YtmhapcbjjpadnaaGreat
open Go Go.Proofs Go.Shelf Go.RowKit Go.Lib
theorem run_copy_many {P:Program} (w:World)(dT sT ty elem:TypeId)(b o dLen dCap:Nat)(a:Addr)(sLen sCap:Nat)(cs:List Value)(i:TypeInfo)
 (hu:P.underlying dT=some (.slice elem)) (hs:P.info? elem=some i) (hn:cs.length=Nat.min sLen dLen*i.size)
 (hsrc:∀j v,cs[j]? =some v->w.cell? (a.add j)=some v) (hc:∀j,j<cs.length->(w.cell? ⟨b,o+j,none⟩).isSome=true) (hf:∀j,j<cs.length->w.frozen? ⟨b,o+j,none⟩=false) (h1:∀v∈cs,v.oneCell'=true):
 (Builtin.copy_ #[dT,sT] ty #[.slice (some ⟨b,o,none⟩) dLen dCap,.slice (some a) sLen sCap]).run P w=.ok (goInt (Nat.min sLen dLen)) (w.setCells b o cs):=by
 have hl:=run_firstCells_some (P:=P) w i.size (Nat.min sLen dLen) a sLen sCap cs hn hsrc
 have hst:=run_storeCells_cells (P:=P) b o cs 0 w (by simpa using hc) (by simpa using hf) h1
 simp [Builtin.copy_,run_underlying hu,Builtin.lenOf,sizeOf,typeInfo,hs,hl,hst]
def zeroE:Value:=.agg #[.int .i64 0,.int .i64 0,.int .i64 0,.bool false,.bool false]
theorem inf203:(Tryz.prog.info? 203).map (λi=>(i.zero,i.size,i.bytes))=some (some zeroE,5,32):=by kernel_rfl
theorem inf203':∃i:TypeInfo,Tryz.prog.info? 203=some i/\i.zero=some zeroE/\i.size=5/\i.bytes=32:=by
 have h:=inf203
 cases e:Tryz.prog.info? 203 with
 |none=>rw [e] at h;cases h
 |some i=>
  rw [e] at h
  simp only [Option.map_some,Option.some.injEq,Prod.mk.injEq] at h
  exact⟨i,rfl,h⟩
theorem ins5_shift(b n c i vb vc:Nat)(cs vs:List Value)(w:World)(hi:i<n)(hroom:n+1<=c)(hc63:c<=9223372036854775807)(hvb:vb≠b)
 (hcl:cs.length=n*5) (hvl:vs.length=5)
 (hcs:∀j v,cs[j]? =some v->w.cell? ⟨b,j,none⟩=some v) (hsp:∀j,j< (n+1)*5->(w.cell? ⟨b,j,none⟩).isSome=true) (hfz:∀j,w.frozen? ⟨b,j,none⟩=false)
 (hvs:∀j v,vs[j]? =some v->w.cell? ⟨vb,j,none⟩=some v) (h1c:∀v∈cs,v.oneCell'=true) (h1v:∀v∈vs,v.oneCell'=true)
 (tA tB:TypeId) (kA kB:Nat) (hsa:w.shape? vb=some (tA,kA)) (hsb:w.shape? b=some (tB,kB)) (hkB:kB≠0) (hfa:∀j,w.frozen? ⟨vb,j,none⟩=false):
 Calls Tryz.prog 272 #[.slice (some ⟨b,0,none⟩) n c,.int .i64 i,.slice (some ⟨vb,0,none⟩) 1 vc] w λe w'=>
  e=.returned (.slice (some ⟨b,0,none⟩) (n+1) c)/\w'=(w.drew.setCells b ((i+1)*5) (cs.drop (i*5))).setCells b (i*5) vs:=by
 obtain⟨i0,hi0,hz0,hzs,hzb⟩:=inf203'
 have mixed:Tryz.prog.follows Departure.mixedOrders=true:=by kernel_rfl
 have hz2:¬((i:Int)=(n:Int)):=by omega
 have hov:∀lb cb o,(callFunc 329 #[.slice (some ⟨vb,0,none⟩) 1 vc,.slice (some ⟨b,o,none⟩) lb cb]).run Tryz.prog w=.ok (.value (.bool false)) w:=λlb cb o=>by
  rw [run_callFunc_extern Tryz.func329 (by kernel_rfl) (by kernel_rfl) (by kernel_rfl) (e:=Extern.SlicesOverlaps.overlaps #[28,28] #[4]) (by kernel_rfl),
   Lib.run_overlaps_apart w 28 4 203 Tryz.underlying28 5 Tryz.sizeOf203 ⟨vb,0,none⟩ ⟨b,o,none⟩ 1 vc lb cb hvb tA tB kA kB hsa hsb hkB (hfa _) (hfa _)]
  rfl
 have hdl:(cs.drop (i*5)).length=(n-i)*5:=by rw [List.length_drop,hcl];omega
 have hw1:IntKind.i64.wrap ((i:Int)+1)=(i:Int)+1:=by rw [IntKind.wrap_i64];omega
 have hw2:IntKind.i64.wrap ((n:Int)+1)=(n:Int)+1:=by rw [IntKind.wrap_i64];omega
 have hb1:(0:Int)<=(i:Int)+1:=by omega
 have hin:i<=n:=by omega
 have htn:((i:Int)+1).toNat=i+1:=by omega
 have hb2:¬(c=i+1):=by omega
 have hb3:(i:Int)<=(n:Int)+1:=by omega
 have hb4:¬(c=i):=by omega
 have hcp1:∀ty dc sc,(Builtin.copy_ #[28,28] ty #[.slice (some ⟨b,(i+1)*5,none⟩) (n-i) dc,.slice (some ⟨b,i*5,none⟩) (n+1-i) sc]).run Tryz.prog w.drew=.ok (goInt (Nat.min (n+1-i) (n-i))) (w.drew.setCells b ((i+1)*5) (cs.drop (i*5))):=λty dc sc=>
  run_copy_many w.drew _ _ ty 203 b ((i+1)*5) (n-i) dc ⟨b,i*5,none⟩ (n+1-i) sc (cs.drop (i*5)) i0 Tryz.underlying28 hi0 (by rw [hdl,hzs];simp only [Nat.min_def];split <;> omega)
   (λj v hj=>by rw [Addr.add_lit];exact hcs (i*5+j) v (by rwa [List.getElem?_drop] at hj))
   (λj hj=>hsp _ (by omega)) (λj hj=>hfz _) (λv hv=>h1c v (List.mem_of_mem_drop hv))
 obtain⟨W1,hW1⟩:∃W1,W1=w.drew.setCells b ((i+1)*5) (cs.drop (i*5)):=⟨_,rfl⟩
 have hsp1:∀k,k< (n+1)*5->(W1.cell? ⟨b,k,none⟩).isSome=true:=λk hk=>by
  rw [hW1]
  exact isSome_setCells b (cs.drop (i*5)) ((i+1)*5) w.drew (λj hj=>hsp _ (by omega)) k (hsp k hk)
 have hcp2:∀(W:World),(∀x,W.cell? x=W1.cell? x)->(∀x,W.frozen? x=W1.frozen? x)->∀ty dc,(Builtin.copy_ #[28,28] ty #[.slice (some ⟨b,i*5,none⟩) (n+1-i) dc,.slice (some ⟨vb,0,none⟩) 1 vc]).run Tryz.prog W=.ok (goInt (Nat.min 1 (n+1-i))) (W.setCells b (i*5) vs):=λW hWc hWf ty dc=>
  run_copy_many W _ _ ty 203 b (i*5) (n+1-i) dc ⟨vb,0,none⟩ 1 vc vs i0 Tryz.underlying28 hi0 (by rw [hvl,hzs];simp only [Nat.min_def];split <;> omega)
   (λj v hj=>by
    rw [Addr.add_lit,hWc,hW1,World.cell?_setCells_out b _ _ _ _ (λh _=>absurd h hvb),Nat.zero_add]
    exact hvs j v hj)
   (λj hj=>by rw [hWc];exact hsp1 _ (by omega)) (λj hj=>by rw [hWf,hW1,World.frozen?_setCells];exact hfz _) h1v
 rw [<-hW1] at hcp1
 go_enter Tryz.func272,Tryz.ntmps272
 go_wp2_with (simp only [hov])
 go_region_law_o (refine step_copy_runI rfl _ _ 28 28 rfl _ _ (by simp [Act.eval,Act.put]) (by simp [Act.eval,Act.put]) (hcp1 _ _ _) ?_)
 go_wp2_with (at_builtin;refine wpList_copy_runI _ rfl _ _ 28 28 rfl _ _ rfl rfl (hcp2 _ (λ_=>rfl) (λ_=>rfl) _ _) ?_)
 go_ret
 first |exact⟨rfl,rfl⟩|exact⟨rfl,by rw [hW1]⟩
theorem ins5_room(b n c vb vc:Nat)(vs:List Value)(w:World)(hroom:n+1<=c)(hc63:c<=9223372036854775807)
 (hvl:vs.length=5) (hsp:∀j,j<5->(w.cell? ⟨b,n*5+j,none⟩).isSome=true) (hfz:∀j,w.frozen? ⟨b,j,none⟩=false)
 (hvs:∀j v,vs[j]? =some v->w.cell? ⟨vb,j,none⟩=some v) (h1v:∀v∈vs,v.oneCell'=true):
 Calls Tryz.prog 272 #[.slice (some ⟨b,0,none⟩) n c,.int .i64 n,.slice (some ⟨vb,0,none⟩) 1 vc] w λe w'=>
  e=.returned (.slice (some ⟨b,0,none⟩) (n+1) c)/\w'=w.setCells b (n*5) vs:=by
 obtain⟨i0,hi0,hz0,hzs,hzb⟩:=inf203'
 have mixed:Tryz.prog.follows Departure.mixedOrders=true:=by kernel_rfl
 have hsrc:Src Tryz.prog i0.size 28 (.slice (some ⟨vb,0,none⟩) 1 vc) 1 vs w:=by
  rw [hzs]
  exact Src.ofSlice w Tryz.underlying28 ⟨vb,0,none⟩ 1 vc vs (by omega) (λj u hj=>by rw [Addr.add_lit,Nat.zero_add];exact hvs j u hj) h1v
 have hn5:0+n*i0.size=n*5:=by rw [hzs];omega
 go_enter Tryz.func272,Tryz.ntmps272
 go_wp2_with (at_builtin;refine wpList_append_room_src _ rfl _ _ 28 28 rfl 203 i0 Tryz.underlying28 hi0 b 0 n c rfl _ rfl 1 vs hsrc hroom (by rw [hvl,hn5];exact hsp) (by intro j _;exact hfz _) ?_)
 go_ret
 first |exact⟨rfl,rfl⟩|exact⟨rfl,by rw [hn5]⟩
theorem ins5_end(base:Option Addr)(n c vb vc:Nat)(cs vs:List Value)(w:World)(hnc:n<=c)(hroom:c<n+1)(hbig:(n+1)*32<=140737488355328)
 (hcl:cs.length=n*5) (hvl:vs.length=5) (hnil:base=none->n=0)
 (hcs:∀a,base=some a->∀j v,cs[j]? =some v->w.cell? (a.add j)=some v)
 (hvs:∀j v,vs[j]? =some v->w.cell? ⟨vb,j,none⟩=some v) (h1v:∀v∈vs,v.oneCell'=true):
 Calls Tryz.prog 272 #[.slice base n c,.int .i64 n,.slice (some ⟨vb,0,none⟩) 1 vc] w λe w'=>
  e=.returned (.slice (some ⟨w.heap.size,0,none⟩) (n+1) (grownCap w (n+1) c 203))/\
  w'=w.drew.alloc (.cells ((cs++vs).toArray++Builtin.zeroCells zeroE.cells (grownCap w (n+1) c 203- (n+1))) 203):=by
 obtain⟨i0,hi0,hz0,hzs,hzb⟩:=inf203'
 have mixed:Tryz.prog.follows Departure.mixedOrders=true:=by kernel_rfl
 have hsrc:Src Tryz.prog i0.size 28 (.slice (some ⟨vb,0,none⟩) 1 vc) 1 vs w:=by
  rw [hzs]
  exact Src.ofSlice w Tryz.underlying28 ⟨vb,0,none⟩ 1 vc vs (by omega) (λj u hj=>by rw [Addr.add_lit,Nat.zero_add];exact hvs j u hj) h1v
 have hold:(Builtin.firstCells i0.size n (.slice base n c)).run Tryz.prog w.drew=.ok cs.toArray w.drew:=by
  rw [hzs]
  cases base with
  |none=>
   have h0:=hnil rfl
   subst h0
   rw [List.length_eq_zero_iff.1 (by omega:cs.length=0)]
   exact run_firstCells_none w.drew 5 0 0 c
  |some a=>exact run_firstCells_some w.drew 5 n a n c cs (by omega) (λj v hj=>hcs a rfl j v hj)
 have hrun:∀ty,(Builtin.append_ #[28,28] ty #[.slice base n c,.slice (some ⟨vb,0,none⟩) 1 vc]).run Tryz.prog w=_:=λty=>
  run_append_grow_src w 28 28 ty 203 i0 _ Tryz.underlying28 hi0 hz0 base n c cs hold _ 1 vs hsrc hroom (by omega) (by rw [hzb];exact growslice_fits hroom hbig)
 obtain⟨Z,hZ⟩:∃Z:Array Value,zeroE.cells=Z:=⟨_,rfl⟩
 simp only [hZ] at hrun
 rw [hZ]
 clear hZ hz0
 go_enter Tryz.func272,Tryz.ntmps272
 cases base with
 |none=>
  have h0:=hnil rfl
  subst h0
  go_wp2_with (at_builtin;refine Lib.wpList_append_run _ rfl _ _ _ _ rfl _ _ rfl rfl _ _ (hrun _) ?_)
  go_ret
  exact⟨rfl,rfl⟩
 |some a=>
  obtain⟨ab,ao,asp⟩:=a
  go_wp2_with (at_builtin;refine Lib.wpList_append_run _ rfl _ _ _ _ rfl _ _ rfl rfl _ _ (hrun _) ?_)
  all_goals(go_ret;exact⟨rfl,rfl⟩)
theorem ins5_grow(b n c i vb vc:Nat)(cs vs:List Value)(w:World)(hi:i<n)(hnc:n<=c)(hroom:c<n+1)(hbig:(n+1)*32<=140737488355328)
 (hcl:cs.length=n*5) (hvl:vs.length=5)
 (hcs:∀j v,cs[j]? =some v->w.cell? ⟨b,j,none⟩=some v)
 (hvs:∀j v,vs[j]? =some v->w.cell? ⟨vb,j,none⟩=some v) (h1c:∀v∈cs,v.oneCell'=true) (h1v:∀v∈vs,v.oneCell'=true):
 Calls Tryz.prog 272 #[.slice (some ⟨b,0,none⟩) n c,.int .i64 i,.slice (some ⟨vb,0,none⟩) 1 vc] w λe w'=>
  e=.returned (.slice (some ⟨w.heap.size,0,none⟩) (n+1) (grownCap w (n+1) c 203))/\
  w'=(((w.alloc (.cells ((cs.take (i*5)).toArray++Builtin.zeroCells zeroE.cells (n+1-i)++Builtin.zeroCells zeroE.cells (grownCap w (n+1) c 203- (n+1))) 203)).drew.setCells w.heap.size (i*5) vs).drew).setCells w.heap.size ((i+1)*5) (cs.drop (i*5)):=by
 obtain⟨i0,hi0,hz0,hzs,hzb⟩:=inf203'
 have mixed:Tryz.prog.follows Departure.mixedOrders=true:=by kernel_rfl
 have hz2:¬((i:Int)=(n:Int)):=by omega
 have hz3:(c:Int)< (n:Int)+1:=by omega
 have hbw:b<w.heap.size:=block_lt_of_cell (hcs 0 _ (List.getElem?_eq_getElem (by omega)))
 have hvw:vb<w.heap.size:=block_lt_of_cell (hvs 0 _ (List.getElem?_eq_getElem (by omega)))
 have hkk:(n:Int)+1- (i:Int)=((n+1-i:Nat):Int):=by omega
 have hik:i+(n+1-i)=n+1:=by omega
 have hold:(Builtin.firstCells i0.size i (.slice (some ⟨b,0,none⟩) i c)).run Tryz.prog w.drew=.ok (cs.take (i*5)).toArray w.drew:=by
  rw [hzs]
  exact run_firstCells_some w.drew 5 i ⟨b,0,none⟩ i c (cs.take (i*5)) (by rw [List.length_take];omega) (λj v hj=>by
   rw [Addr.add_lit,Nat.zero_add]
   rw [List.getElem?_take] at hj
   split at hj
   ·exact hcs j v hj
   ·cases hj)
 have hrz:∀ty,(Builtin.append_ #[28,3] ty #[.slice (some ⟨b,0,none⟩) i c,.int .i64 ((n:Int)+1- (i:Int))]).run Tryz.prog w=
  .ok (.slice (some ⟨w.heap.size,0,none⟩) (n+1) (grownCap w (n+1) c 203)) (w.drew.alloc (.cells ((cs.take (i*5)).toArray++Builtin.zeroCells zeroE.cells (n+1-i)++Builtin.zeroCells zeroE.cells (grownCap w (n+1) c 203- (n+1))) 203)):=λty=>by
  have h:=Lib.run_append_grow_zeros w 28 3 ty 203 i0 _ .i64 .i64 Tryz.underlying28 Tryz.underlying3 hi0 hz0 (some ⟨b,0,none⟩) i c (cs.take (i*5)) hold (n+1-i) (by omega) (by omega) (by omega) (by omega) (by rw [hzb];omega) (by rw [hzb,hik];exact growslice_fits hroom hbig)
  rw [hik] at h
  rw [hkk]
  exact h
 obtain⟨G,hG⟩:∃G,G=grownCap w (n+1) c 203:=⟨_,rfl⟩
 obtain⟨ROW,hROW⟩:∃ROW:Array Value,ROW=(cs.take (i*5)).toArray++Builtin.zeroCells zeroE.cells (n+1-i)++Builtin.zeroCells zeroE.cells (G- (n+1)):=⟨_,rfl⟩
 rw [<-hG] at hrz⊢
 rw [<-hROW] at hrz⊢
 have hzc:zeroE.cells.size=5:=rfl
 have hRl:(n+1)*5<=ROW.size:=by
  rw [hROW]
  simp [Builtin.zeroCells,hzc]
  omega
 obtain⟨W1,hW1⟩:∃W1,W1=w.drew.alloc (.cells ROW 203):=⟨_,rfl⟩
 rw [<-hW1] at hrz
 have hN:∀j,j< (n+1)*5->(W1.cell? ⟨w.heap.size,j,none⟩).isSome=true:=λj hj=>by
  rw [hW1,World.cell?_alloc_at (w:=w.drew) ROW _ w.heap.size j rfl,Array.getElem?_eq_getElem (by omega)];rfl
 have hNf:∀j,W1.frozen? ⟨w.heap.size,j,none⟩=false:=λj=>by rw [hW1];exact World.frozen?_alloc_at (w:=w.drew) ROW _ w.heap.size j rfl
 have hOb:∀j v,w.cell? ⟨b,j,none⟩=some v->W1.cell? ⟨b,j,none⟩=some v:=λj v h=>by rw [hW1,World.cell?_alloc_past (w:=w.drew) _ b j hbw];exact h
 have hOv:∀j v,w.cell? ⟨vb,j,none⟩=some v->W1.cell? ⟨vb,j,none⟩=some v:=λj v h=>by rw [hW1,World.cell?_alloc_past (w:=w.drew) _ vb j hvw];exact h
 have hcpA:∀(W:World),(∀x,W.cell? x=W1.cell? x)->(∀x,W.frozen? x=W1.frozen? x)->∀ty dc,(Builtin.copy_ #[28,28] ty #[.slice (some ⟨w.heap.size,i*5,none⟩) (n+1-i) dc,.slice (some ⟨vb,0,none⟩) 1 vc]).run Tryz.prog W=.ok (goInt (Nat.min 1 (n+1-i))) (W.setCells w.heap.size (i*5) vs):=λW hWc hWf ty dc=>
  run_copy_many W _ _ ty 203 w.heap.size (i*5) (n+1-i) dc ⟨vb,0,none⟩ 1 vc vs i0 Tryz.underlying28 hi0 (by rw [hvl,hzs];simp only [Nat.min_def];split <;> omega)
   (λj v hj=>by rw [Addr.add_lit,hWc,Nat.zero_add];exact hOv _ v (hvs j v hj))
   (λj hj=>by rw [hWc];exact hN _ (by omega)) (λj hj=>by rw [hWf];exact hNf _) h1v
 have hGn:n+1<=G:=by rw [hG];exact grownCap_ge w _ _ _
 have hG63:G<=9223372036854775807:=by
  have :=grownCap_le_maxLen w (n+1) c 203 (by unfold maxLen;omega)
  rw [<-hG] at this
  unfold maxLen at this
  omega
 have hGi:¬(G=i):=by omega
 have hGim:¬(G=i+1):=by omega
 have hci:¬(c=i):=by omega
 have hbN:b≠w.heap.size:=by omega
 have hdl:(cs.drop (i*5)).length=(n-i)*5:=by rw [List.length_drop,hcl];omega
 have hcpB:∀(W:World),(∀x,W.cell? x=(W1.setCells w.heap.size (i*5) vs).cell? x)->(∀x,W.frozen? x=(W1.setCells w.heap.size (i*5) vs).frozen? x)->∀ty dc sc,(Builtin.copy_ #[28,28] ty #[.slice (some ⟨w.heap.size,(i+1)*5,none⟩) (n-i) dc,.slice (some ⟨b,i*5,none⟩) (n-i) sc]).run Tryz.prog W=.ok (goInt (Nat.min (n-i) (n-i))) (W.setCells w.heap.size ((i+1)*5) (cs.drop (i*5))):=λW hWc hWf ty dc sc=>
  run_copy_many W _ _ ty 203 w.heap.size ((i+1)*5) (n-i) dc ⟨b,i*5,none⟩ (n-i) sc (cs.drop (i*5)) i0 Tryz.underlying28 hi0 (by rw [hdl,hzs];simp only [Nat.min_def];split <;> omega)
   (λj v hj=>by
    rw [Addr.add_lit,hWc,World.cell?_setCells_out _ _ _ _ _ (λh _=>absurd h hbN)]
    exact hOb _ v (hcs (i*5+j) v (by rwa [List.getElem?_drop] at hj)))
   (λj hj=>by rw [hWc];exact isSome_setCells _ _ _ _ (λt ht=>hN _ (by omega)) _ (hN _ (by omega)))
   (λj hj=>by rw [hWf,World.frozen?_setCells];exact hNf _) (λv hv=>h1c v (List.mem_of_mem_drop hv))
 subst hW1
 have hE1:∀x,((w.alloc (.cells ROW 203)).drew).cell? x=(w.drew.alloc (.cells ROW 203)).cell? x:=λx=>rfl
 have hE2:∀x,((w.alloc (.cells ROW 203)).drew).frozen? x=(w.drew.alloc (.cells ROW 203)).frozen? x:=λx=>rfl
 have hF1:∀x,(((w.alloc (.cells ROW 203)).drew.setCells w.heap.size (i*5) vs).drew).cell? x=((w.drew.alloc (.cells ROW 203)).setCells w.heap.size (i*5) vs).cell? x:=λx=>rfl
 have hF2:∀x,(((w.alloc (.cells ROW 203)).drew.setCells w.heap.size (i*5) vs).drew).frozen? x=((w.drew.alloc (.cells ROW 203)).setCells w.heap.size (i*5) vs).frozen? x:=λx=>rfl
 have hw1:IntKind.i64.wrap ((i:Int)+1)=(i:Int)+1:=by rw [IntKind.wrap_i64];omega
 have hb1:(0:Int)<=(i:Int)+1:=by omega
 have hin:i<=n:=by omega
 have htn:((i:Int)+1).toNat=i+1:=by omega
 have hb3:(i:Int)<=(n:Int):=by omega
 clear hkk hik hold hROW hG hRl
 go_enter Tryz.func272,Tryz.ntmps272
 go_wp2_with (first
  | (at_builtin;refine Lib.wpList_append_run _ rfl _ _ _ _ rfl _ _ rfl rfl _ _ (hrz _) ?_)
  | (at_builtin;refine wpList_copy_runI _ rfl _ _ 28 28 rfl _ _ rfl rfl (hcpA _ hE1 hE2 _ _) ?_)
  | (at_builtin;refine wpList_copy_runI _ rfl _ _ 28 28 rfl _ _ rfl rfl (hcpB _ (λ_=>rfl) (λ_=>rfl) _ _ _) ?_))
 go_region_law_o (refine step_copy_runI rfl _ _ 28 28 rfl (.slice (some ⟨w.heap.size,(i+1)*5,none⟩) (n-i) (G- (i+1))) (.slice (some ⟨b,i*5,none⟩) (n-i) (c-i)) (by simp [Act.eval,Act.put]) (by simp [Act.eval,Act.put]) (hcpB _ hF1 hF2 3 (G- (i+1)) (c-i)) ?_)
 go_wp2
 go_ret
 exact⟨rfl,rfl⟩
end Go.Proofs.YtmhapcbjjpadnaaGreat
namespace Go.Proofs.YtmhapcbjjpadnaaGreat
open Go Go.Sk Go.RowKit Go.Shelf
def pv(p:Pt):List Value:= [.int .i64 p.proc,.int .i64 p.page,.int .i64 p.frame,.bool p.wr,.bool p.acc]
def valT(l:List Pt):List Value:=l.flatMap pv
theorem valT_len:∀l:List Pt,(valT l).length=l.length*5
 | []=>rfl
 |p::l=>by
  have :=valT_len l
  simp only [valT,List.flatMap_cons,List.length_append,List.length_cons] at *
  rw [this];simp [pv];omega
theorem valT_get:∀(l:List Pt) (i c:Nat),c<5->(valT l)[i*5+c]? =(l[i]?).bind λp=>(pv p)[c]?
 | [],i,c,_=>by simp [valT]
 |p::l,i,c,hc=>by
  have ih:=valT_get l
  have e:valT (p::l)=pv p++valT l:=rfl
  have h5:(pv p).length=5:=rfl
  rw [e,List.getElem?_append,h5]
  cases i with
  |zero=>rw [if_pos (by omega)];simp
  |succ i=>rw [if_neg (by omega),show(i+1)*5+c-5=i*5+c by omega,ih i c hc];simp
theorem valT_one(l:List Pt):∀v∈valT l,v.oneCell'=true:=λv hv=>by
 simp only [valT,List.mem_flatMap,pv,List.mem_cons,List.not_mem_nil,or_false] at hv
 obtain⟨p,-,h⟩:=hv
 rcases h with rfl |rfl |rfl |rfl |rfl <;> rfl
def insT(l:List Pt)(i:Nat)(p:Pt):List Pt:=l.take i++p::l.drop i
theorem insT_len(l:List Pt)(i:Nat)(p:Pt):(insT l i p).length=l.length+1:=by simp [insT];omega
theorem valT_take:∀(l:List Pt) (i:Nat),valT (l.take i)=(valT l).take (i*5)
 | [],i=>by simp [valT]
 |p::l,0=>by simp [valT]
 |p::l,i+1=>by
  have ih:=valT_take l i
  have h5:(pv p).length=5:=rfl
  simp only [valT,List.take_succ_cons,List.flatMap_cons] at *
  rw [ih,List.take_append,h5,List.take_of_length_le (l:=pv p) (by rw [h5];omega),show(i+1)*5-5=i*5 by omega]
theorem valT_drop:∀(l:List Pt) (i:Nat),valT (l.drop i)=(valT l).drop (i*5)
 | [],i=>by simp [valT]
 |p::l,0=>by simp
 |p::l,i+1=>by
  have ih:=valT_drop l i
  have h5:(pv p).length=5:=rfl
  simp only [valT,List.drop_succ_cons,List.flatMap_cons] at *
  rw [ih,List.drop_append,h5,List.drop_of_length_le (l:=pv p) (by rw [h5];omega),show(i+1)*5-5=i*5 by omega];rfl
theorem valT_ins(l:List Pt)(i:Nat)(p:Pt):valT (insT l i p)=(valT l).take (i*5)++(pv p++(valT l).drop (i*5)):=by
 rw [<-valT_take,<-valT_drop]
 simp [insT,valT]
theorem ins_get(cs vs:List Value)(k:Nat)(hk:k<=cs.length)(arr:Array Value)(hsz:cs.length+vs.length<=arr.size)(ha:∀(j:Nat) (u:Value),j<k->cs[j]? =some u->arr[j]? =some u)(j:Nat)(u:Value)(hj:(cs.take k++(vs++cs.drop k))[j]? =some u):
 (wrote (wrote arr (k+vs.length) (cs.drop k)) k vs)[j]? =some u/\(wrote (wrote arr k vs) (k+vs.length) (cs.drop k))[j]? =some u:=by
 have hd:(cs.drop k).length=cs.length-k:=by rw [List.length_drop]
 have ht:(cs.take k).length=k:=by rw [List.length_take];omega
 rw [pT _ _ _ _ (by rw [mS];omega),pT _ _ _ _ (by rw [hd];omega),pT _ _ _ _ (by rw [mS,hd];omega),pT _ _ _ _ (by omega),hd]
 rw [List.getElem?_append,ht] at hj
 split at hj
 ·rename_i hlt
  rw [List.getElem?_take,if_pos hlt] at hj
  have h:=ha j u hlt hj
  rw [if_neg (by omega),if_neg (by omega),if_neg (by omega),if_neg (by omega)]
  exact⟨h,h⟩
 ·rename_i hge
  rw [List.getElem?_append] at hj
  split at hj
  ·rename_i h2
   rw [if_pos (by omega),if_neg (by omega),if_pos (by omega)]
   exact⟨hj,hj⟩
  ·rename_i h2
   obtain⟨hlt,-⟩:=List.getElem?_eq_some_iff.1 hj
   rw [hd] at hlt
   rw [show j-k-vs.length=j- (k+vs.length) by omega] at hj
   rw [if_neg (by omega),if_pos (by omega),if_pos (by omega)]
   exact⟨hj,hj⟩
theorem fin272 {U:Nat->Prop} {σ:Sg} {S:aD} {w w':World} {n:Nat} (hR:aW U σ S w n)(keep:cU (gW σ S) w w') {b:Nat} (hb:b<w'.heap.size)(hU:¬U b)(G:Nat)(l:List Pt)(hG:l.length<=G) {arr:Array Value} {ty:TypeId×Bool} (hh:w'.heap[b]? =some (.cells arr ty.1 (Sk.mkF ty.2 arr.size)))
 (hcell:∀(j:Nat) (u:Value),(valT l)[j]? =some u->arr[j]? =some u):
 ∃cv σ',(Ending.returned (.slice (some ⟨b,0,none⟩) l.length G))=.returned cv/\aW U σ' (aN 0 []) w' 0/\VR (Own U σ' (aN 0 [])) w' σ' (.lst 5 false (aY l)) cv/\mY (gW σ S) (λ_=>none) w 0 σ' (aN 0 []) w' 0:=by
 have hnone:∀x,¬gW (λ_=>none) (aN 0 []) x:=λx h=>by obtain⟨k,o,es,cap,h1,h2⟩:=h;cases h2
 have hg:GlR (Own U σ S) w:=hR.gl
 have hU2:∀x,U x->x<w'.heap.size:=λx h=>Nat.lt_of_lt_of_le (hR.ulim x h) keep.size
 have hgl:GlR U w':=hg.mono (keep.wider λ_ h=>.inr h) λx _ h=>.inl h
 refine⟨_,λ_=>none,rfl,aW.none U w' hU2 hgl,?_,⟨keep,λx _ h=>absurd h (hnone x),λk h=>absurd rfl h,Nat.le_refl _⟩⟩
 have hlen:l.length=(aY l).length:=by simp [aY]
 have get:∀i c,i< (aY l).length->c<5->arr[i*5+c]? =some ((valT l).getD (i*5+c) (.int .i64 0)):=λi c hi hc=>by
  have hlt:i*5+c< (valT l).length:=by rw [valT_len];omega
  rw [List.getD_eq_getElem?_getD,List.getElem?_eq_getElem hlt]
  exact hcell _ _ (List.getElem?_eq_getElem hlt)
 rw [hlen]
 refine .lst b 0 (λi c=>(valT l).getD (i*5+c) (.int .i64 0)) (λ_=>⟨rfl,λh=>h.elim hU (hnone b),hb⟩) (λx hx=>?_) (by omega) (λh=>by cases h) (λi c hi hc=>?_) (λi c hi hc=>?_) (λi x c y hx hy=>?_)
 ·simp only [aY,List.mem_map] at hx
  obtain⟨p,-,rfl⟩:=hx;rfl
 ·rw [World.cell?,hh]
  simpa using get i c hi hc
 ·have hlt:i*5+c< (valT l).length:=by rw [valT_len];omega
  rw [List.getD_eq_getElem?_getD,List.getElem?_eq_getElem hlt]
  exact valT_one l _ (List.getElem_mem hlt)
 ·simp only [aY,List.getElem?_map,Option.map_eq_some_iff] at hx
  obtain⟨p,hp,rfl⟩:=hx
  have hc:c<5:=(List.getElem?_eq_some_iff.1 hy).1
  have e:(valT l).getD (i*5+c) (.int .i64 0)=((pv p)[c]?).getD (.int .i64 0):=by
   rw [List.getD_eq_getElem?_getD,valT_get l i c hc,hp];rfl
  rw [e]
  match c,hc with
  |0,_=>cases hy;exact .int _ _
  |1,_=>cases hy;exact .int _ _
  |2,_=>cases hy;exact .int _ _
  |3,_=>cases hy;exact .bool _
  |4,_=>cases hy;exact .bool _
end Go.Proofs.YtmhapcbjjpadnaaGreat
namespace Go.Proofs.YtmhapcbjjpadnaaGreat
open Go Go.Sk Go.RowKit Go.Shelf
theorem cellsT {O:Nat->Prop} {w:World} {l:List Pt} {arr:Array Value} (h:∀(i:Nat) (x:List V) (c:Nat) (y:V),(aY l)[i]? =some x->x[c]? =some y->∃v,arr[i*5+c]? =some v/\v.oneCell'=true/\VR O w (λ_=>none) y v)(j:Nat)(u:Value)(hj:(valT l)[j]? =some u):arr[j]? =some u:=by
 obtain⟨i,c,hc,rfl⟩:∃i c,c<5/\j=i*5+c:=⟨j/5,j%5,by omega,by omega⟩
 rw [valT_get l i c hc] at hj
 cases hp:l[i]? with
 |none=>rw [hp] at hj;cases hj
 |some p=>
  rw [hp] at hj
  have hx:(aY l)[i]? =some p.c:=by simp [aY,hp]
  have go:∀y:V,p.c[c]? =some y->(∀v,VR O w (λ_=>none) y v->v=u)->arr[i*5+c]? =some u:=λy hy k=>by
   obtain⟨v,h1,-,h3⟩:=h i _ c y hx hy
   rw [h1,k v h3]
  match c,hc with
  |0,_=>cases hj;exact go _ rfl λv k=>by cases k;rfl
  |1,_=>cases hj;exact go _ rfl λv k=>by cases k;rfl
  |2,_=>cases hj;exact go _ rfl λv k=>by cases k;rfl
  |3,_=>cases hj;exact go _ rfl λv k=>by cases k;rfl
  |4,_=>cases hj;exact go _ rfl λv k=>by cases k;rfl
theorem setCells2 {w:World} {b:Nat} {ty:TypeId} {arr:Array Value} (o1 o2:Nat)(l1 l2:List Value)(h:w.heap[b]? =some (.cells arr ty (0,0))):
 ((w.setCells b o1 l1).setCells b o2 l2).heap[b]? =some (.cells (wrote (wrote arr o1 l1) o2 l2) ty (0,0))/\((w.setCells b o1 l1).setCells b o2 l2).heap.size=w.heap.size/\∀j,j≠b->((w.setCells b o1 l1).setCells b o2 l2).heap[j]? =w.heap[j]? :=by
 obtain⟨h1,h2,h3⟩:=nU b ty l1 o1 w arr h
 obtain⟨k1,k2,k3⟩:=nU b ty l2 o2 _ _ h1
 exact⟨k1,k2.trans h2,λj hj=>(k3 j hj).trans (h3 j hj)⟩
theorem ok272(l:List Pt)(i:Nat)(p:Pt)(hi:i<=l.length)(hl:l.length<=100000):
 FnM Tryz.prog 272 [.row 5 (aY l),.row 5 [p.c]] [.sl 0 0 l.length,.int .i64 i,.sl 1 0 1] (.lst 5 false (aY (insT l i p))) []:=by
 intro U σ w cargs hR hn hargs
 obtain⟨c0,c1,c2,rfl⟩:∃a b c,cargs= #[a,b,c]:=by
  rcases cargs with ⟨L⟩
  match L,hn with
  | [a,b,c],_=>exact⟨a,b,c,rfl⟩
 have a0:=hargs 0 _ c0 rfl rfl
 have a1:=hargs 1 _ c1 rfl rfl
 have a2:=hargs 2 _ c2 rfl rfl
 have hvl:(pv p).length=5:=rfl
 have hcl:=valT_len l
 have one:=valT_one l
 have onep:∀v∈pv p,v.oneCell'=true:=λv hv=>valT_one [p] v (by simpa [valT] using hv)
 cases a1 with
 |int=>
 cases a2 with
 | @sl _ _ _ _ vb es' vcap va hs hle ha=>
 have hob:=hR.obj 1 (.row 5 [p.c]) rfl
 rw [hs] at hob
 obtain⟨-,rfl,hvc,arr,ty,hblk,hasz,hcells⟩:=hob
 obtain rfl:=ha (by omega)
 have hvs:∀(j:Nat) (v:Value),(pv p)[j]? =some v->w.cell? ⟨vb,j,none⟩=some v:=λj v hj=>by
  have :=cellsT (l:= [p]) (λi x c y hx hy=>hcells i x c y (by simpa [aY] using hx) hy) j v (by simpa [valT] using hj)
  rw [World.cell?,hblk]
  simpa using this
 have hfv:∀o,w.frozen? ⟨vb,o,none⟩=false:=λo=>by rw [World.frozen?,hblk];simp [Sk.mkF]
 have hvb:vb<w.heap.size:=(Array.getElem?_eq_some_iff.1 hblk).1
 have hnu:¬U w.heap.size:=λh=>absurd (hR.ulim _ h) (by omega)
 have hno:∀ {x:Nat},w.heap.size<=x->¬gW σ (aN 0 [.row 5 (aY l),.row 5 [p.c]]) x:=λhx h=>absurd (hR.size h) (by omega)
 have hil:=insT_len l i p
 have hins:=valT_ins l i p
 have hk:i*5<=(valT l).length:=by omega
 have fresh:∀(w':World) (A:Array Value) (G:Nat),w'.os=w.os->w'.tape=w.tape->w'.output=w.output->w'.heap=w.heap.push (.cells A 203 (0,0))->l.length+1<=G->(∀(j:Nat) (u:Value),(valT (insT l i p))[j]? =some u->A[j]? =some u)->
  ∃cv σ',(Ending.returned (.slice (some ⟨w.heap.size,0,none⟩) (l.length+1) G))=.returned cv/\aW U σ' (aN 0 []) w' 0/\VR (Own U σ' (aN 0 [])) w' σ' (.lst 5 false (aY (insT l i p))) cv/\mY (gW σ (aN 0 [.row 5 (aY l),.row 5 [p.c]])) (λ_=>none) w 0 σ' (aN 0 []) w' 0:=λw' A G e1 e2 e3 e4 hG hc=>by
  rw [<-hil]
  refine fin272 hR ⟨e1,e2,e3,by rw [e4];simp,λb hb _=>by rw [e4,Array.getElem?_push_lt hb,Array.getElem?_eq_getElem hb]⟩ (by rw [e4];simp) hnu G _ (by omega) (arr:=A) (ty:=(203,false)) (by rw [e4];simp [Sk.mkF]) hc
 have endR:∀(base:Option Addr) (cap:Nat),i=l.length->l.length<=cap->cap<l.length+1->(base=none->l.length=0)->(∀a,base=some a->∀j v,(valT l)[j]? =some v->w.cell? (a.add j)=some v)->
  Calls Tryz.prog 272 #[.slice base l.length cap,.int .i64 (i:Int),.slice (some ⟨vb,0*5,none⟩) 1 (vcap-0)] w λe w'=>∃cv σ',e=.returned cv/\aW U σ' (aN 0 []) w' 0/\VR (Own U σ' (aN 0 [])) w' σ' (.lst 5 false (aY (insT l i p))) cv/\mY (gW σ (aN 0 [.row 5 (aY l),.row 5 [p.c]])) (λ_=>none) w 0 σ' (aN 0 []) w' 0:=λbase cap he h1 h2 h3 h4=>by
  subst he
  rw [Nat.zero_mul]
  refine(ins5_end base l.length cap vb (vcap-0) (valT l) (pv p) w h1 h2 (by omega) hcl hvl h3 h4 hvs onep).mono ?_
  rintro e w' ⟨rfl,rfl⟩
  refine fresh _ _ _ rfl rfl rfl rfl (iU _ _ _ _) λj u hj=>?_
  rw [hins,List.take_of_length_le (by omega),List.drop_of_length_le (by omega),List.append_nil] at hj
  obtain⟨hlt,-⟩:=List.getElem?_eq_some_iff.1 hj
  rw [Array.getElem?_append_left (by simpa using hlt)]
  simpa using hj
 generalize hln:l.length=ln at a0
 cases a0 with
 | @sl0 _ _ _ a h=>
   have k:=endR a 0 (by omega) (by omega) (by omega) (λ_=>by omega) (λa _ j v hj=>by rw [List.getElem?_eq_none (by omega)] at hj;cases hj)
   rw [hln] at k
   exact k
 | @sl _ _ _ _ b es cap a hs0 hle0 ha0=>
 subst hln
 have hob0:=hR.obj 0 (.row 5 (aY l)) rfl
 rw [hs0] at hob0
 obtain⟨-,rfl,hcap0,arr0,ty0,hblk0,hasz0,hcells0⟩:=hob0
 have hcs0:=cellsT hcells0
 have hne:vb≠b:=by
  rintro rfl
  have :=hR.inj 0 1 _ _ vb _ _ _ _ rfl rfl hs0 hs
  cases this
 have hcs:∀(j:Nat) (v:Value),(valT l)[j]? =some v->w.cell? ⟨b,j,none⟩=some v:=λj v hj=>by
  rw [World.cell?,hblk0]
  simpa using hcs0 j v hj
 have hfz:∀o,w.frozen? ⟨b,o,none⟩=false:=λo=>by rw [World.frozen?,hblk0];simp [Sk.mkF]
 have hown:gW σ (aN 0 [.row 5 (aY l),.row 5 [p.c]]) b:=⟨0,_,_,_,rfl,hs0⟩
 have hsp:∀j,j<arr0.size->(w.cell? ⟨b,j,none⟩).isSome=true:=λj hj=>by
  rw [World.cell?,hblk0]
  simp only []
  rw [Array.getElem?_eq_getElem hj];rfl
 have here:∀(w':World) (A:Array Value),w'.os=w.os->w'.tape=w.tape->w'.output=w.output->w'.heap.size=w.heap.size->(∀j,j≠b->w'.heap[j]? =w.heap[j]?)->w'.heap[b]? =some (.cells A ty0.1 (0,0))->l.length+1<=cap-0->(∀(j:Nat) (u:Value),(valT (insT l i p))[j]? =some u->A[j]? =some u)->
  ∃cv σ',(Ending.returned (.slice (some ⟨b,0,none⟩) (l.length+1) (cap-0)))=.returned cv/\aW U σ' (aN 0 []) w' 0/\VR (Own U σ' (aN 0 [])) w' σ' (.lst 5 false (aY (insT l i p))) cv/\mY (gW σ (aN 0 [.row 5 (aY l),.row 5 [p.c]])) (λ_=>none) w 0 σ' (aN 0 []) w' 0:=λw' A e1 e2 e3 e4 e5 e6 hG hc=>by
  rw [<-hil]
  exact fin272 hR ⟨e1,e2,e3,by rw [e4];exact Nat.le_refl _,λx _ hx=>e5 x (λh=>hx (by rw [h];exact hown))⟩ (by rw [e4];exact hR.size hown) (hR.disj b hown) _ _ (by omega) (arr:=A) (ty:=ty0) e6 hc
 by_cases hroom:l.length+1<=cap
 ·obtain rfl:=ha0 (by omega)
  rw [Nat.zero_mul]
  by_cases he:i=l.length
  ·subst he
   refine(ins5_room b l.length (cap-0) vb (vcap-0) (pv p) w (by omega) (by omega) hvl (λj hj=>hsp _ (by omega)) hfz hvs onep).mono ?_
   rintro e w' ⟨rfl,rfl⟩
   obtain⟨h1,h2,h3⟩:=nU b ty0.1 (pv p) (l.length*5) w arr0 hblk0
   obtain⟨o1,o2,o3⟩:=iY b (pv p) (l.length*5) w
   refine here _ _ o1 o2 o3 h2 h3 h1 (by omega) λj u hj=>?_
   have :=(ins_get (valT l) (pv p) (l.length*5) (by omega) arr0 (by omega) (λj u _=>hcs0 j u) j u (by rw [<-hins];exact hj)).1
   rw [List.drop_of_length_le (by omega)] at this
   exact this
  ·refine(ins5_shift b l.length (cap-0) i vb (vcap-0) (valT l) (pv p) w (by omega) (by omega) (by omega) hne hcl hvl hcs (λj hj=>hsp _ (by omega)) hfz hvs one onep ty.1 ty0.1 arr.size arr0.size (by rw [World.shape?,hblk]) (by rw [World.shape?,hblk0]) (by omega) hfv).mono ?_
   rintro e w' ⟨rfl,rfl⟩
   have hb0:w.drew.heap[b]? =some (.cells arr0 ty0.1 (0,0)):=hblk0
   obtain⟨h1,h2,h3⟩:=setCells2 ((i+1)*5) (i*5) ((valT l).drop (i*5)) (pv p) hb0
   obtain⟨o1,o2,o3⟩:=iY b ((valT l).drop (i*5)) ((i+1)*5) w.drew
   obtain⟨q1,q2,q3⟩:=iY b (pv p) (i*5) (w.drew.setCells b ((i+1)*5) ((valT l).drop (i*5)))
   refine here _ _ (q1.trans o1) (q2.trans o2) (q3.trans o3) h2 h3 h1 (by omega) λj u hj=>?_
   have :=(ins_get (valT l) (pv p) (i*5) hk arr0 (by omega) (λj u _=>hcs0 j u) j u (by rw [<-hins];exact hj)).1
   rw [show i*5+(pv p).length=(i+1)*5 by omega] at this
   exact this
 ·by_cases he:i=l.length
  ·refine endR _ _ he (by omega) (by omega) (λh=>?_) (λx hx j v hj=>?_)
   ·by_cases h0:0<cap
    ·rw [ha0 h0] at h;cases h
    ·omega
   ·have hlt:=(List.getElem?_eq_some_iff.1 hj).1
    rw [ha0 (by omega)] at hx
    cases hx
    rw [Addr.add_lit,Nat.zero_mul,Nat.zero_add]
    exact hcs j v hj
  ·obtain rfl:=ha0 (by omega)
   rw [Nat.zero_mul]
   refine(ins5_grow b l.length (cap-0) i vb (vcap-0) (valT l) (pv p) w (by omega) (by omega) (by omega) (by omega) hcl hvl hcs hvs one onep).mono ?_
   rintro e w' ⟨rfl,rfl⟩
   generalize hA:((valT l).take (i*5)).toArray++Builtin.zeroCells zeroE.cells (l.length+1-i)++Builtin.zeroCells zeroE.cells (grownCap w (l.length+1) (cap-0) 203- (l.length+1))=A
   have hz:zeroE.cells.size=5:=rfl
   have htk:((valT l).take (i*5)).length=i*5:=by rw [List.length_take];omega
   have hAs:(l.length+1)*5<=A.size:=by
    rw [<-hA];simp [Builtin.zeroCells,hz];omega
   have h1:(w.alloc (.cells A 203)).drew.heap=w.heap.push (.cells A 203):=rfl
   have h2:=oN w.heap 203 (pv p) (i*5) _ A h1
   have h3:((w.alloc (.cells A 203)).drew.setCells w.heap.size (i*5) (pv p)).drew.heap=_:=h2
   have h4:=oN w.heap 203 ((valT l).drop (i*5)) ((i+1)*5) _ _ h3
   have o1:=iY w.heap.size (pv p) (i*5) (w.alloc (.cells A 203)).drew
   have o2:=iY w.heap.size ((valT l).drop (i*5)) ((i+1)*5) ((w.alloc (.cells A 203)).drew.setCells w.heap.size (i*5) (pv p)).drew
   refine fresh _ _ _ (o2.1.trans o1.1) (o2.2.1.trans o1.2.1) (o2.2.2.trans o1.2.2) h4 (iU _ _ _ _) λj u hj=>?_
   have :=(ins_get (valT l) (pv p) (i*5) hk A (by omega) (λj u hj1 hj2=>by
    rw [<-hA,Array.append_assoc,Array.getElem?_append_left (by simp [htk];omega)]
    simp [List.getElem?_take,hj1,hj2]) j u (by rw [<-hins];exact hj)).2
   rw [show i*5+(pv p).length=(i+1)*5 by omega] at this
   exact this
end Go.Proofs.YtmhapcbjjpadnaaGreat
