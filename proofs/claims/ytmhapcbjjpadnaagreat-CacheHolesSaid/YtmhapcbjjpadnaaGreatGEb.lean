/- Caches. -/
import Derived.Test.YtmhapcbjjpadnaaGreatGDb
import Derived.Test.YtmhapcbjjpadnaaGreatG6b
import Derived.Test.YtmhapcbjjpadnaaGreatGCb
import Derived.Test.YtmhapcbjjpadnaaGreatG4b
import Derived.Test.YtmhapcbjjpadnaaGreatK8b
set_option linter.all false
set_option maxHeartbeats 2000000
set_option maxRecDepth 40000
open Bool renaming cond_false_right→zE,not_true→zF,and_eq_true→zG,cond_true_left→zK,not_eq_false'→zL,not_eq_true'→zM,not_not→zU
open Int renaming toNat_natCast→zA
open List renaming getD_eq_getElem?_getD→zC,length_set→zD,mem_append→zH,getElem_mem→zJ,cons_append→zO,getElem?_eq_none→zP,getElem_of_mem→zQ,mem_cons→zS
open Nat renaming le_of_not_lt→zI,zero_le→zN,add_sub_cancel→zT,or_lt_two_pow→zV
namespace Go.Proofs.YtmhapcbjjpadnaaGreat
open Go Go.Sk Go.RowKit
theorem kD(L:List Ls)(k:Nat)(h:k<L.length):(bW L).getD k []=(L.getD k l0).c:=by
 have :=aNV L k h;rwa [zA] at this
def Dc.acc(c:Dc)(n:Nat)(t:Nat):Dc:=⟨c.fl,c.fr,c.zo,c.gr,c.ls.set t (mW (c.ls.getD t l0) ((n+1:Nat):Int)).1,c.ck,c.pt⟩
theorem bHG(c:Dc)(n:Nat)(u:Us)(hc:SmD c)(hn:n<c.fr.length)(hu:c.fr.getD n none=some u)(ht:u.ten<c.ls.length)(hl:eL (c.ls.getD u.ten l0)):
 aM Tryz.prog 127 [] [.agg c.c,.int .i64 ((n+1:Nat):Int)] (.agg (c.acc n u.ten).c) []:=by
 have k85:=aL1 c hc
 have k99:=bMY (c.ls.getD u.ten l0) ((n+1:Nat):Int) hl
 unfold Dc.acc
 obtain⟨fl,fr,zo,gr,ls,ck,pt⟩:=c
 have hfr:=hc.fr
 have hls:=hc.ls
 dsimp only at hn hu ht hfr hls k99⊢
 have hgu:=cH fr n hn
 rw [hu] at hgu
 have hgu:(aV fr).getD n []=u.c:=hgu
 obtain⟨file,page,p,ten,holds,rd,wr⟩:=u
 dsimp only at ht k99
 have hgl:=kD ls ten ht
 have hset:∀x:Ls,(bW ls).set ten (aU 3 (ls.getD ten l0).c 0 x.c)=bW (ls.set ten x):=λx=>pR ls ten x
 generalize ls.getD ten l0=l at k99 hgl hset
 generalize(mW l ((n+1:Nat):Int)).2=er at k99
 generalize(mW l ((n+1:Nat):Int)).1=l2 at k99⊢
 refine aF (ob0:= []) [] Tryz.func127 rfl rfl rfl rfl ?_
 refine Wk ?_
 refine .inr ⟨λ_=>⟨[],_,_,_,k85,trivial,rfl,rfl,rfl,?_⟩,(by intro h;cases h)⟩
 refine Wk ?_
 rw [aR (n:=((n+1:Nat):Int)-1) (by omega) (by omega),show((n+1:Nat):Int)-1=(n:Int) by omega,show decide (0<=(n:Int)/\(n:Int)< (fr.length:Int))=true from decide_eq_true ⟨by omega,by omega⟩]
 refine Wk ?_
 rw [show 0+(n:Int).toNat=n by omega,show decide (n< (aV fr).length)=true from decide_eq_true (by rw [bU];exact hn),hgu]
 refine Wk ?_
 first |refine aB (⟨by show(0:Int)<=(ten:Int);omega,by show(ten:Int)< (ls.length:Int);omega⟩) ?_ |refine aH (λ_=>⟨by show(0:Int)<=(ten:Int);omega,by show(ten:Int)< (ls.length:Int);omega⟩) ?_ |refine⟨λ_=>⟨by show(0:Int)<=(ten:Int);omega,by show(ten:Int)< (ls.length:Int);omega⟩,?_⟩
 refine Wk ?_
 first |refine aB (by show 0+(ten:Int).toNat< (bW ls).length;rw [bT];omega,by omega) ?_ |refine aH (λ_=>by show 0+(ten:Int).toNat< (bW ls).length;rw [bT];omega,by omega) ?_ |refine⟨λ_=>by show 0+(ten:Int).toNat< (bW ls).length;rw [bT];omega,by omega,?_⟩
 rw [show 0+(ten:Int).toNat=ten by omega,hgl]
 refine cC k99 ?_
 first |refine aB (⟨by show(0:Int)<=(ten:Int);omega,by show(ten:Int)< (ls.length:Int);omega⟩) ?_ |refine aH (λ_=>⟨by show(0:Int)<=(ten:Int);omega,by show(ten:Int)< (ls.length:Int);omega⟩) ?_ |refine⟨λ_=>⟨by show(0:Int)<=(ten:Int);omega,by show(ten:Int)< (ls.length:Int);omega⟩,?_⟩
 refine Wk ?_
 rw [show 0+(ten:Int).toNat=ten by omega,hgl]
 first |refine bG (by show ten< (bW ls).length;rw [bT];omega) (by omega) ?_ |refine aB ⟨by show ten< (bW ls).length;rw [bT];omega,by omega⟩ ?_ |refine⟨by show ten< (bW ls).length;rw [bT];omega,by omega,?_⟩
 refine Wk ?_
 refine⟨[],trivial,rfl,trivial,rfl,?_⟩
 try subst hk
 repeat' (first |exact trivial |rfl |exact .inl rfl |exact .inr rfl |exact id |exact(λh=>Bool.noConfusion h)|refine And.intro ?_ ?_)
 all_goals first
  |exact cA rfl (aZ _)
  |exact cA rfl (bU _)
  |exact cA rfl (aI _)
  |exact cA rfl (aA _)
  | (rw [aZ];omega)
  | (rw [bU];omega)
  | (rw [aI];omega)
  | (rw [aA];omega)
  |exact cA (hset l2) (by rw [zD];exact bT ls)
  | (rw [zD,bT];show 0+ls.length<=ls.length;omega)
def gC(c:Dc)(n:Int):Bool:=bif (bif decide (1<=n) then decide (n<=(c.fr.length:Int)) else false) then(c.fr.getD (n-1).toNat none).isSome else false
def mA(u:Us):Bool:=bif (bif (u.holds:Int)==0 then(u.rd:Int)==0 else false) then(u.wr:Int)==0 else false
theorem bEN(u:Us):aM Tryz.prog 28 [] [.agg u.c] (.bool (mA u)) []:=by
 obtain⟨file,page,p,ten,holds,rd,wr⟩:=u
 refine aF (ob0:= []) [] Tryz.func28 rfl rfl rfl rfl ?_
 refine Wk ?_
 try subst hk
 exact Lf
theorem bHL(u:Us):aM Tryz.prog 151 [] [.agg u.c] (.bool (mA u)) []:=by
 obtain⟨file,page,p,ten,holds,rd,wr⟩:=u
 refine aF (ob0:= []) [] Tryz.func151 rfl rfl rfl rfl ?_
 refine Wk ?_
 try subst hk
 exact Lf
theorem aBC(L:List (Option Us))(k:Nat):(aV L).getD k []=[]\/∃o,(aV L).getD k []=frC o:=by
 by_cases h:k<L.length
 ·exact .inr ⟨_,cH L k h⟩
 ·exact .inl (by simp [aV,zC,zP (zI h)])
theorem aB4(c:Dc)(n:Int)(hc:SmD c):aM Tryz.prog 70 [] [.agg c.c,.int .i64 n] (.bool (gC c n)) []:=by
 obtain⟨fl,fr,zo,gr,ls,ck,pt⟩:=c
 have hfr:=hc.fr
 dsimp only at hfr
 generalize hk:gC ⟨fl,fr,zo,gr,ls,ck,pt⟩ n=q
 unfold gC at hk
 dsimp only at hk
 show aM Tryz.prog 70 [] [.agg [.lst 15 false (bA fl),.lst 9 false (aV fr),.lst 6 false (aQ zo),.lst 3 false (bC gr),.lst 3 false (bW ls),.lst 1 false (aE ck),.lst 5 false (aY pt)],.int .i64 n] (.bool q) []
 refine aF (ob0:= []) [] Tryz.func70 rfl rfl rfl rfl ?_
 refine Wk ?_
 rw [bU]
 cases h1:(bif decide (1<=n) then decide (n<=(fr.length:Int)) else false) with
 |false=>
  rw [h1,cond_false] at hk
  subst hk
  refine Wk ?_
  rcases aBC fr (IntKind.i64.wrap (n-1)).toNat with h2 | ⟨o,h2⟩
  ·rw [h2]
   refine Wk ?_
   try subst hk
   exact Lf
  ·rw [h2]
   cases o with
   |none=>
    refine Wk ?_
    try subst hk
    exact Lf
   |some u=>
    refine Wk ?_
    try subst hk
    exact Lf
 |true=>
  rw [h1,cond_true] at hk
  have hb:1<=n/\n<=(fr.length:Int):=by
   by_cases a:1<=n
   ·rw [decide_eq_true a,cond_true,decide_eq_true_eq] at h1;exact⟨a,h1⟩
   ·rw [decide_eq_false a] at h1;cases h1
  obtain⟨m,rfl⟩:∃m:Nat,n=((m+1:Nat):Int):=⟨(n-1).toNat,by omega⟩
  rw [show(((m+1:Nat):Int)-1).toNat=m by omega] at hk
  have hg:=cH fr m (by omega)
  rw [aR (n:=((m+1:Nat):Int)-1) (by omega) (by omega),show((m+1:Nat):Int)-1=(m:Int) by omega]
  refine aB ⟨rfl,by omega,by omega⟩ ?_
  rw [zA,hg]
  cases ho:fr.getD m none with
  |none=>
   rw [ho] at hk
   subst hk
   refine Wk ?_
   try subst hk
   exact Lf
  |some u=>
   rw [ho] at hk
   subst hk
   obtain⟨file,page,p,ten,holds,rd,wr⟩:=u
   refine Wk ?_
   rw [show((file:Int) != -1)=true from bne_iff_ne.2 (by omega)]
   try subst hk
   exact Lf
end Go.Proofs.YtmhapcbjjpadnaaGreat
namespace Go.Proofs.YtmhapcbjjpadnaaGreat
open Go Go.Sk Go.RowKit
def findF(E:cM)(i:Int):Int×Bool:=bif decide (uW E i<=0) then(0,false) else(uW E i,true)
theorem bEQ(c:Dc)(f:Nat)(i:Int)(hc:SmD c)(hf:f<c.fl.length)(hE:bH (c.fl.getD f aP).E)(hs:rK (c.fl.getD f aP).E):
 aM Tryz.prog 33 [] [.agg c.c,.int .i64 (f:Int),.int .i64 i] (.tup [.int .i64 (findF (c.fl.getD f aP).E i).1,.bool (findF (c.fl.getD f aP).E i).2]) []:=by
 have k115:=aBY c f hf
 have k117:=aUG hE hs i
 obtain⟨fl,fr,zo,gr,ls,ck,pt⟩:=c
 dsimp only at hf hE hs k117⊢
 have hgf:=eJ fl f hf
 generalize fl.getD f aP=x at *
 obtain⟨k0,k1,k2,k3,e⟩:=bB hE
 have hfc:x.c=[.int .i64 x.dev,.int .i64 x.slot,.int .i64 (hgt x.E:Int),.lst k0 k1 k2,.int .i64 k3,.int .i64 (lI x.E 0 (4^hgt x.E):Nat),.int .i64 (x.size:Int),.int .i64 (x.blocks:Int),.int .i64 x.ec,.int .i64 x.ee,.int .i64 0,.int .i64 0,.int .i64 0,.int .i64 0,.int .i64 0]:=by unfold Df.c;rw [e];rfl
 rw [hfc] at hgf
 rw [e] at k117
 generalize hk:findF x.E i=q
 unfold findF at hk
 generalize uW x.E i=v at k117 hk
 refine aF (ob0:= []) [] Tryz.func33 rfl rfl rfl rfl ?_
 refine cC k115 ?_
 first |refine aB (⟨rfl,by omega,by show(f:Int)< ((bA fl).length:Int);rw [aZ];omega⟩) ?_ |refine aH (λ_=>⟨rfl,by omega,by show(f:Int)< ((bA fl).length:Int);rw [aZ];omega⟩) ?_ |refine⟨λ_=>⟨rfl,by omega,by show(f:Int)< ((bA fl).length:Int);rw [aZ];omega⟩,?_⟩
 rw [zA,hgf]
 refine cC k117 ?_
 refine aC (λc1=>?_) (λc1=>?_)<;> try simp only [zK,zE,zM,zL,zU] at c1
 ·rw [c1,cond_true] at hk
  subst hk
  refine Wk ?_
  try subst hk
  exact Lf
 rw [c1,cond_false] at hk
 subst hk
 refine Wk ?_
 try subst hk
 exact Lf
theorem aGK(c:Dc)(f:Nat)(hf:f<c.fl.length):aM Tryz.prog 141 [] [.agg c.c,.int .i64 (f:Int)] (.bool true) []:=by
 obtain⟨fl,fr,zo,gr,ls,ck,pt⟩:=c
 dsimp only at hf
 show aM Tryz.prog 141 [] [.agg [.lst 15 false (bA fl),.lst 9 false (aV fr),.lst 6 false (aQ zo),.lst 3 false (bC gr),.lst 3 false (bW ls),.lst 1 false (aE ck),.lst 5 false (aY pt)],.int .i64 (f:Int)] (.bool true) []
 refine aF (ob0:= []) [] Tryz.func141 rfl rfl rfl rfl ?_
 refine Wk ?_
 rw [aZ,show decide ((0:Int)<=(f:Int))=true from decide_eq_true (by omega),show decide ((f:Int)< (fl.length:Int))=true from decide_eq_true (by omega)]
 try subst hk
 exact Lf
theorem bAV(c:Dc)(f:Nat)(i:Nat)(hi:i<16)(hc:SmD c)(hf:f<c.fl.length)(hE:bH (c.fl.getD f aP).E)(hs:rK (c.fl.getD f aP).E):
 aM Tryz.prog 138 [] [.agg c.c,.int .i64 (f:Int),.int .i64 (i:Int)] (.tup [.int .i64 (findF (c.fl.getD f aP).E (i:Int)).1,.bool (findF (c.fl.getD f aP).E (i:Int)).2]) []:=by
 have k141:=aGK c f hf
 have k143:=bAW hE hs i hi
 obtain⟨fl,fr,zo,gr,ls,ck,pt⟩:=c
 dsimp only at hf hE hs k143⊢
 have hgf:=eJ fl f hf
 generalize fl.getD f aP=x at *
 obtain⟨k0,k1,k2,k3,e⟩:=bB hE
 have hfc:x.c=[.int .i64 x.dev,.int .i64 x.slot,.int .i64 (hgt x.E:Int),.lst k0 k1 k2,.int .i64 k3,.int .i64 (lI x.E 0 (4^hgt x.E):Nat),.int .i64 (x.size:Int),.int .i64 (x.blocks:Int),.int .i64 x.ec,.int .i64 x.ee,.int .i64 0,.int .i64 0,.int .i64 0,.int .i64 0,.int .i64 0]:=by unfold Df.c;rw [e];rfl
 rw [hfc] at hgf
 rw [e] at k143
 generalize hk:findF x.E (i:Int)=q
 unfold findF at hk
 rw [show uW x.E (i:Int)=(x.E i).1 by unfold uW;rw [decide_eq_true (by omega),cond_true,zA]] at hk
 generalize(x.E i).1=v at k143 hk
 refine aF (ob0:= []) [] Tryz.func138 rfl rfl rfl rfl ?_
 refine cC k141 ?_
 first |refine aB (⟨rfl,by omega,by show(f:Int)< ((bA fl).length:Int);rw [aZ];omega⟩) ?_ |refine aH (λ_=>⟨rfl,by omega,by show(f:Int)< ((bA fl).length:Int);rw [aZ];omega⟩) ?_ |refine⟨λ_=>⟨rfl,by omega,by show(f:Int)< ((bA fl).length:Int);rw [aZ];omega⟩,?_⟩
 rw [zA,hgf]
 refine cC k143 ?_
 cases c1:decide (v<=0) with
 |true=>
  rw [c1,cond_true] at hk
  subst hk
  rw [decide_eq_true_eq] at c1
  rw [show max v 0=0 by omega,show decide (0<v)=false from decide_eq_false (by omega)]
  try subst hk
  exact Lf
 |false=>
  rw [c1,cond_false] at hk
  subst hk
  rw [decide_eq_false_iff_not] at c1
  rw [show max v 0=v by omega,show decide (0<v)=true from decide_eq_true (by omega)]
  try subst hk
  exact Lf
theorem bJW(c:Dc)(n:Int)(hc:SmD c):aM Tryz.prog 96 [] [.agg c.c,.int .i64 n] (.bool (gC c n)) []:=by
 obtain⟨fl,fr,zo,gr,ls,ck,pt⟩:=c
 have hfr:=hc.fr
 dsimp only at hfr
 generalize hk:gC ⟨fl,fr,zo,gr,ls,ck,pt⟩ n=q
 unfold gC at hk
 dsimp only at hk
 show aM Tryz.prog 96 [] [.agg [.lst 15 false (bA fl),.lst 9 false (aV fr),.lst 6 false (aQ zo),.lst 3 false (bC gr),.lst 3 false (bW ls),.lst 1 false (aE ck),.lst 5 false (aY pt)],.int .i64 n] (.bool q) []
 refine aF (ob0:= []) [] Tryz.func96 rfl rfl rfl rfl ?_
 refine Wk ?_
 rw [bU]
 cases h1:(bif decide (1<=n) then decide (n<=(fr.length:Int)) else false) with
 |false=>
  rw [h1,cond_false] at hk
  subst hk
  refine Wk ?_
  rcases aBC fr (IntKind.i64.wrap (n-1)).toNat with h2 | ⟨o,h2⟩
  ·rw [h2]
   refine Wk ?_
   try subst hk
   exact Lf
  ·rw [h2]
   cases o with
   |none=>
    refine Wk ?_
    try subst hk
    exact Lf
   |some u=>
    refine Wk ?_
    try subst hk
    exact Lf
 |true=>
  rw [h1,cond_true] at hk
  have hb:1<=n/\n<=(fr.length:Int):=by
   by_cases a:1<=n
   ·rw [decide_eq_true a,cond_true,decide_eq_true_eq] at h1;exact⟨a,h1⟩
   ·rw [decide_eq_false a] at h1;cases h1
  obtain⟨m,rfl⟩:∃m:Nat,n=((m+1:Nat):Int):=⟨(n-1).toNat,by omega⟩
  rw [show(((m+1:Nat):Int)-1).toNat=m by omega] at hk
  have hg:=cH fr m (by omega)
  rw [aR (n:=((m+1:Nat):Int)-1) (by omega) (by omega),show((m+1:Nat):Int)-1=(m:Int) by omega]
  refine aB ⟨rfl,by omega,by omega⟩ ?_
  rw [zA,hg]
  cases ho:fr.getD m none with
  |none=>
   rw [ho] at hk
   subst hk
   refine Wk ?_
   try subst hk
   exact Lf
  |some u=>
   rw [ho] at hk
   subst hk
   obtain⟨file,page,p,ten,holds,rd,wr⟩:=u
   refine Wk ?_
   rw [show decide ((0:Int)<=(file:Int))=true from decide_eq_true (by omega)]
   try subst hk
   exact Lf
end Go.Proofs.YtmhapcbjjpadnaaGreat
namespace Go.Proofs.YtmhapcbjjpadnaaGreat
open Go Go.Sk Go.RowKit
def eC(p:Pt):Bool:=bif (bif (bif (bif (bif decide (0<=p.proc) then decide (p.proc<8) else false) then decide (0<=p.page) else false) then decide (p.page<64) else false) then decide (1<=p.frame) else false) then decide (p.frame<=64) else false
def eB(a b:Pt):Bool:=bif decide (a.proc<b.proc) then true else bif a.proc==b.proc then decide (a.page<b.page) else false
theorem bBT(p:Pt):aM Tryz.prog 273 [] [.agg p.c] (.bool (eC p)) []:=by
 obtain⟨proc,page,frame,wr,acc⟩:=p
 refine aF (ob0:= []) [] Tryz.func273 rfl rfl rfl rfl ?_
 refine Wk ?_
 try subst hk
 exact Lf
theorem aV9(a b:Pt):aM Tryz.prog 274 [] [.agg a.c,.agg b.c] (.bool (eB a b)) []:=by
 obtain⟨proc,page,frame,wr,acc⟩:=a
 obtain⟨proc2,page2,frame2,wr2,acc2⟩:=b
 refine aF (ob0:= []) [] Tryz.func274 rfl rfl rfl rfl ?_
 refine Wk ?_
 try subst hk
 exact Lf
def uG(l:List Pt)(j:Nat):Bool:=bif !eC (l.getD j p0) then true else bif decide (0< (j:Int)) then !eB (l.getD (j-1) p0) (l.getD j p0) else false
def kQ(l:List Pt):Bool:=bJ (uG l) l.length
theorem iX(L:List Pt)(k:Nat)(h:k<L.length):(aY L).getD k []=(L.getD k p0).c:=by
 have :=uT L k h;rwa [zA] at this
theorem aUV(l:List Pt)(t:Bool)(hl:l.length<=100000):aM Tryz.prog 202 [] [.lst 5 t (aY l)] (.bool (kQ l)) []:=by
 generalize hk:kQ l=q
 refine aF (ob0:= []) [] Tryz.func202 rfl rfl rfl rfl ?_
 refine Wk ?_
 refine⟨Nat,λi=>i<=l.length/\bJ (uG l) i=true,λi=>⟨[(0,⟨[],true,.lst 5 t (aY l)⟩),(3,⟨[],true,.int .i64 (i:Int)⟩)],[],0⟩,λi=>l.length-i,⟨0,⟨zN _,rfl⟩,?_⟩,λi hp=>?_⟩
 ·exact Vw []
 obtain⟨hp1,hp2⟩:=hp
 dsimp only at hp1 hp2⊢
 refine Wk ?_
 rw [aS]
 refine aC (λb1=>?_) (λb1=>?_)<;> try simp only [zK,zE,zM,zL,zU] at b1
 ·have b1:i<l.length:=by simp at b1;omega
  have hbd:uG l i=bif !eC (l.getD i p0) then true else bif decide (0< (i:Int)) then !eB (l.getD (i-1) p0) (l.getD i p0) else false:=rfl
  have hg:=iX l i b1
  have hg1:=iX l (i-1) (by omega)
  have k273:=bBT (l.getD i p0)
  have k274:=aV9 (l.getD (i-1) p0) (l.getD i p0)
  generalize l.getD i p0=b at *
  generalize l.getD (i-1) p0=a at *
  refine Wk ?_
  first |refine aB (⟨rfl,by omega,by rw [aS];omega⟩) ?_ |refine aH (λ_=>⟨rfl,by omega,by rw [aS];omega⟩) ?_ |refine⟨λ_=>⟨rfl,by omega,by rw [aS];omega⟩,?_⟩
  rw [zA,hg]
  refine cC k273 ?_
  rw [aR (n:=(i:Int)-1) (by omega) (by omega),show((i:Int)-1).toNat=i-1 by omega]
  first |refine aB (⟨rfl,by simp only [zG,decide_eq_true_eq] at hg;omega,by rw [aS];omega⟩) ?_ |refine aH (λhg=>⟨rfl,by simp only [zG,decide_eq_true_eq] at hg;omega,by rw [aS];omega⟩) ?_ |refine⟨λhg=>⟨rfl,by simp only [zG,decide_eq_true_eq] at hg;omega,by rw [aS];omega⟩,?_⟩
  rw [hg1]
  refine Wk ?_
  first |refine aB (⟨rfl,by omega,by rw [aS];omega⟩) ?_ |refine aH (λ_=>⟨rfl,by omega,by rw [aS];omega⟩) ?_ |refine⟨λ_=>⟨rfl,by omega,by rw [aS];omega⟩,?_⟩
  rw [zA,hg]
  refine cC k274 ?_
  rw [<-hbd]
  cases h3:uG l i with
  |true=>
   have hk:false=q:=by rw [<-hk];exact(dV b1 h3).symm
   subst hk
   refine Wk ?_
   try subst hk
   exact Lf
  |false=>
   refine Wk ?_
   rw [cV (by omega)]
   refine⟨i+1,⟨by show i+1<=_;omega,by show bJ (uG l) (i+1)=true;simp only [bJ,hp2,h3];rfl⟩,?_,by show l.length- (i+1)<l.length-i;omega⟩
   exact Vw []
 have b1:i=l.length:=by simp at b1;omega
 subst b1
 have hk:true=q:=by rw [<-hk];exact hp2.symm
 subst hk
 refine Wk ?_
 try subst hk
 exact Lf
def pF(f:Int)(p:Pt):Bool:=p.frame != f
def qW(l:List Pt)(f:Int):List Pt:=bif kQ l then l.filter (pF f) else l
theorem bI4(l:List Pt)(f:Int)(hc:kQ l=true)(hl:l.length<=100000):aM Tryz.prog 248 [] [.lst 5 false (aY l),.int .i64 f] (.lst 5 false (aY (qW l f))) []:=by
 have k202:=aUV l false hl
 rw [hc] at k202
 unfold qW
 rw [hc,cond_true]
 refine aF (ob0:= []) [] Tryz.func248 rfl rfl rfl rfl ?_
 refine cC k202 ?_
 refine⟨Nat,λk=>k<=l.length,λk=>⟨[(0,⟨[],true,.lst 5 false (aY l)⟩),(1,⟨[],true,.int .i64 f⟩),(5,⟨[],true,.sl 0 0 ((l.take k).filter (pF f)).length⟩),(6,⟨[],true,.int .i64 (k:Int)⟩)],[(0,.row 5 (aY ((l.take k).filter (pF f))))],1⟩,λk=>l.length-k,⟨0,zN _,?_⟩,λk hI=>?_⟩
 ·exact Vw [none]
 dsimp only at hI⊢
 have hfl:((l.take k).filter (pF f)).length<=100000:=by
  have :=List.length_filter_le (pF f) (l.take k)
  have :=List.length_take_le k l
  omega
 refine Wk ?_
 rw [aS]
 refine aC (λb1=>?_) (λb1=>?_)<;> try simp only [zK,zE,zM,zL,zU] at b1
 ·have b1:k<l.length:=by simp at b1;omega
  have hft:=rY (pF f) l k p0 b1
  have hg:=iX l k b1
  have hib:((l.getD k p0).frame != f)=pF f (l.getD k p0):=rfl
  generalize l.getD k p0=j at hft hg hib
  generalize(l.take k).filter (pF f)=F at hft hfl
  refine Wk ?_
  first |refine aB (⟨rfl,by omega,by rw [aS];omega⟩) ?_ |refine aH (λ_=>⟨rfl,by omega,by rw [aS];omega⟩) ?_ |refine⟨λ_=>⟨rfl,by omega,by rw [aS];omega⟩,?_⟩
  rw [zA,hg]
  refine Wk ?_
  rw [hib]
  cases b2:pF f j with
  |true=>
   rw [b2,cond_true] at hft
   refine Wk ?_
   first |refine aB (⟨rfl,by omega,by rw [aS];omega⟩) ?_ |refine aH (λ_=>⟨rfl,by omega,by rw [aS];omega⟩) ?_ |refine⟨λ_=>⟨rfl,by omega,by rw [aS];omega⟩,?_⟩
   rw [zA,hg]
   refine Wk ?_
   refine aB (aS F).symm (bG (by rw [aS];show((F.length+1:Nat):Int)<=_;omega) (by rw [aS];show(F.length+1)*32<=_;omega) ?_)
   refine Wk ?_
   rw [cV (by omega)]
   refine⟨k+1,by show k+1<=_;omega,?_,by show l.length- (k+1)<l.length-k;omega⟩
   dsimp only
   rw [hft]
   refine bX [some 2] rfl rfl ?_ rfl ?_ rfl ?_
   repeat' (first |exact trivial |rfl |exact .inl rfl |exact .inr rfl |exact id |exact(λh=>Bool.noConfusion h)|refine And.intro ?_ ?_)
   ·show aY F++ [j.c]=_
    simp [aY]
   ·show(aY F).length+1=_
    rw [aS,List.length_append];rfl
  |false=>
   rw [b2,cond_false] at hft
   refine Wk ?_
   rw [cV (by omega)]
   refine⟨k+1,by show k+1<=_;omega,?_,by show l.length- (k+1)<l.length-k;omega⟩
   dsimp only
   rw [hft]
   exact Vw [some 0]
 have b1:k=l.length:=by simp at b1;omega
 subst b1
 rw [List.take_length]
 refine Wk ?_
 refine⟨[],trivial,rfl,trivial,rfl,?_⟩
 try subst hk
 repeat' (first |exact trivial |rfl |exact .inl rfl |exact .inr rfl |exact id |exact(λh=>Bool.noConfusion h)|refine And.intro ?_ ?_)
 ·rw [aS];omega
 ·exact cA rfl (aS _)
end Go.Proofs.YtmhapcbjjpadnaaGreat
namespace Go.Proofs.YtmhapcbjjpadnaaGreat
open Go Go.Sk Go.RowKit
def Dc.o2(c:Dc):List V:= [.sl 0 0 c.fl.length,.sl 1 0 c.fr.length,.lst 6 false (aQ c.zo),.lst 3 false (bC c.gr),.sl 2 0 c.ls.length,.sl 3 0 c.ck.length,.lst 5 false (aY c.pt)]
def Dc.ob2(c:Dc):List Sk.Obj:= [.row 15 (bA c.fl),.row 9 (aV c.fr),.row 3 (bW c.ls),.row 1 (aE c.ck)]
def Dc.gone(c:Dc)(n:Nat)(u:Us)(v:Int):Dc:=
 ⟨c.fl.set u.file (eP (c.fl.getD u.file aP) (cI (c.fl.getD u.file aP).E u.page (v,0))),c.fr.set n none,(eG c.zo c.zo ((n+1:Nat):Int)).1,(gB c.gr u.ten).1,c.ls.set u.ten (mV (c.ls.getD u.ten l0) ((n+1:Nat):Int)).1,c.ck,qW c.pt ((n+1:Nat):Int)⟩
theorem bAX(c:Dc)(n:Nat)(u:Us)(v:Int)(hc:SmD c)(h:jQ c n u)(hg:u.ten<c.gr.length)(hgr:rI c.gr=true)(hz:eV c.zo)(hl:eL (c.ls.getD u.ten l0))(hp:kQ c.pt=true)(hpl:c.pt.length<=100000):
 aM Tryz.prog 154 [] [.agg c.c,.int .i64 ((n+1:Nat):Int),.int .i64 v] (.agg (c.gone n u v).o2) (c.gone n u v).ob2:=by
 have k85:=aL1 c hc
 have k248:=bI4 c.pt ((n+1:Nat):Int) hp hpl
 have k249:=bI5 (c.ls.getD u.ten l0) ((n+1:Nat):Int) hl
 have k250:=bI6 c.gr u.ten hg hgr
 have k251:=bI7 c.zo false ((n+1:Nat):Int) hz
 have k118:=aUH h.E h.sup u.page h.page v
 have hE':bH (cI (c.fl.getD u.file aP).E u.page (v,0)):=h.E.set (Nat.zero_lt_succ _) (λ_=>rfl)
 obtain⟨h1,h2,h3,h4,h5,h6,h7,h8,h9,h10,h11⟩:=h
 obtain⟨fl,fr,zo,gr,ls,ck,pt⟩:=c
 have hfr:=hc.fr
 have hls:=hc.ls
 have hfl:=hc.fl
 have hck:=hc.ck
 unfold Dc.gone Dc.o2 Dc.ob2
 dsimp only at *
 have hgu:=cH fr n h1
 rw [h2] at hgu
 have hgu:(aV fr).getD n []=u.c:=hgu
 have hgf:=eJ fl u.file h3
 have hgl:=kD ls u.ten h9
 have hput:=nN fl u.file _ h3 h5 hE'
 rw [hgf] at hput
 have hsetl:∀x:Ls,(bW ls).set u.ten (aU 3 (ls.getD u.ten l0).c 0 x.c)=bW (ls.set u.ten x):=λx=>pR ls u.ten x
 have hsetu:(aV fr).set n (aU 9 u.c 0 fre.c)=aV (fr.set n none):=by
  have :aU 9 u.c 0 fre.c=fre.c:=rfl
  rw [this];unfold aV;rw [List.map_set];rfl
 generalize(eG zo zo ((n+1:Nat):Int)).1=zo2 at *
 generalize(eG zo zo ((n+1:Nat):Int)).2=ze at *
 generalize(gB gr u.ten).1=gr2 at *
 generalize(gB gr u.ten).2=ge at *
 generalize qW pt ((n+1:Nat):Int)=pt2 at *
 generalize fl.getD u.file aP=f at *
 generalize ls.getD u.ten l0=l at *
 generalize(mV l ((n+1:Nat):Int)).2=le at *
 generalize(mV l ((n+1:Nat):Int)).1=l2 at *
 obtain⟨k0,k1,k2,k3,e⟩:=bB h5
 obtain⟨q0,q1,q2,q3,e'⟩:=bB hE'
 have hfc:f.c=[.int .i64 f.dev,.int .i64 f.slot,.int .i64 (hgt f.E:Int),.lst k0 k1 k2,.int .i64 k3,.int .i64 (lI f.E 0 (4^hgt f.E):Nat),.int .i64 (f.size:Int),.int .i64 (f.blocks:Int),.int .i64 f.ec,.int .i64 f.ee,.int .i64 0,.int .i64 0,.int .i64 0,.int .i64 0,.int .i64 0]:=by unfold Df.c;rw [e];rfl
 rw [hfc] at hgf hput
 rw [e'] at hput
 rw [e,e'] at k118
 rw [zD,zD,zD]
 rw [<-hput,<-hsetu,<-hsetl]
 obtain⟨file,page,⟨pb,pv,pd⟩,ten,holds,rd,wr⟩:=u
 dsimp only at *
 have hgu:(aV fr).getD n []=[.int .i64 (file:Int),.int .i64 (page:Int),.str pb,.int .i64 (pv:Int),.int .i64 (pd:Int),.int .i64 (ten:Int),.int .i64 (holds:Int),.int .i64 (rd:Int),.int .i64 (wr:Int)]:=hgu
 have e0:(Dc.mk fl fr zo gr ls ck pt).c=[.lst 15 false (bA fl),.lst 9 false (aV fr),.lst 6 false (aQ zo),.lst 3 false (bC gr),.lst 3 false (bW ls),.lst 1 false (aE ck),.lst 5 false (aY pt)]:=rfl
 have e1:(Dc.mk fl fr zo gr ls ck pt).o=[.sl 0 0 fl.length,.sl 1 0 fr.length,.lst 6 false (aQ zo),.sl 2 0 gr.length,.sl 3 0 ls.length,.sl 4 0 ck.length,.lst 5 false (aY pt)]:=rfl
 have e2:(Dc.mk fl fr zo gr ls ck pt).ob=[.row 15 (bA fl),.row 9 (aV fr),.row 3 (bC gr),.row 3 (bW ls),.row 1 (aE ck)]:=rfl
 rw [e0,e1,e2] at k85
 rw [e0]
 refine aF (ob0:= []) [] Tryz.func154 rfl rfl rfl rfl ?_
 refine Wk ?_
 rw [bU,aR (n:=((n+1:Nat):Int)-1) (by omega) (by omega),show((n+1:Nat):Int)-1=(n:Int) by omega,show decide (9=9/\0<=(n:Int)/\(n:Int)< (fr.length:Int))=true from decide_eq_true ⟨rfl,by omega,by omega⟩]
 rw [zA,hgu]
 refine Wk ?_
 refine .inr ⟨λ_=>⟨[],_,_,_,k85,trivial,rfl,rfl,rfl,?_⟩,(by intro h;cases h)⟩
 refine cC k248 ?_
 first |refine aB (⟨rfl,by omega,by rw [bT];omega⟩) ?_ |refine aH (λ_=>⟨rfl,by omega,by rw [bT];omega⟩) ?_ |refine⟨λ_=>⟨rfl,by omega,by rw [bT];omega⟩,?_⟩
 rw [zA,hgl]
 refine cC k249 ?_
 first |refine aB (⟨by omega,by omega⟩) ?_ |refine aH (λ_=>⟨by omega,by omega⟩) ?_ |refine⟨λ_=>⟨by omega,by omega⟩,?_⟩
 refine Wk ?_
 rw [show 0+(ten:Int).toNat=ten by omega,hgl]
 first |refine bG (by rw [bT];omega) (by omega) ?_ |refine aB ⟨by rw [bT];omega,by omega⟩ ?_ |refine⟨by rw [bT];omega,by omega,?_⟩
 refine Wk2 k250 k251 ?_
 first |refine aB (⟨rfl,by omega,by rw [aZ];omega⟩) ?_ |refine aH (λ_=>⟨rfl,by omega,by rw [aZ];omega⟩) ?_ |refine⟨λ_=>⟨rfl,by omega,by rw [aZ];omega⟩,?_⟩
 rw [zA,hgf]
 refine cC k118 ?_
 first |refine aB (⟨by omega,by omega⟩) ?_ |refine aH (λ_=>⟨by omega,by omega⟩) ?_ |refine⟨λ_=>⟨by omega,by omega⟩,?_⟩
 refine Wk ?_
 rw [show 0+(file:Int).toNat=file by omega,hgf]
 first |refine bG (by rw [aZ];omega) (by omega) ?_ |refine aB ⟨by rw [aZ];omega,by omega⟩ ?_ |refine⟨by rw [aZ];omega,by omega,?_⟩
 refine Wk ?_
 rw [aR (n:=((n+1:Nat):Int)-1) (by omega) (by omega),show((n+1:Nat):Int)-1=(n:Int) by omega,show decide (0<=(n:Int)/\(n:Int)< (fr.length:Int))=true from decide_eq_true ⟨by omega,by omega⟩]
 refine Wk ?_
 rw [show 0+(n:Int).toNat=n by omega,show decide (n< (aV fr).length)=true from decide_eq_true (by rw [bU];exact h1),hgu]
 refine Wk ?_
 try subst hk
 exact⟨[some 3,some 4,some 6,some 7],Cl,rfl,Cl,rfl,Cl⟩
end Go.Proofs.YtmhapcbjjpadnaaGreat
namespace Go.Proofs.YtmhapcbjjpadnaaGreat
open Go Go.Sk Go.RowKit
theorem bJD(c:Dc)(n:Int)(hc:SmD c)(hu:gC c n=false):aM Tryz.prog 43 [] [.agg c.c,.int .i64 n] (.tup [.agg c.c,.int .i64 2]) []:=by
 have k70:=aB4 c n hc
 rw [hu] at k70
 obtain⟨fl,fr,zo,gr,ls,ck,pt⟩:=c
 refine aF (ob0:= []) [] Tryz.func43 rfl rfl rfl rfl ?_
 refine cC k70 ?_
 try subst hk
 exact Lf
def Us.c'(u:Us):List V:=u.c
def Dc.evi(c:Dc)(n:Nat)(u:Us):Dc:=
 let d:=c.gone n u (0- (c.ck.getD u.ten 0+1))
 ⟨d.fl,d.fr,d.zo,d.gr,d.ls,d.ck.set u.ten (min (c.ck.getD u.ten 0+1) 1000000),d.pt⟩
theorem bMC(c:Dc)(n:Nat)(u:Us)(hc:SmD c)(h:jQ c n u)(hg:u.ten<c.gr.length)(hgr:rI c.gr=true)(hz:eV c.zo)(hl:eL (c.ls.getD u.ten l0))(hp:kQ c.pt=true)(hpl:c.pt.length<=100000)
 (hk:u.ten<c.ck.length) (hck:0<=c.ck.getD u.ten 0/\c.ck.getD u.ten 0<=1000000) (hi:mA u=true) (hd:u.p.d=0):
 aM Tryz.prog 43 [] [.agg c.c,.int .i64 ((n+1:Nat):Int)] (.tup [.agg (c.evi n u).c,.int .i64 0]) []:=by
 have hus:gC c ((n+1:Nat):Int)=true:=by
  unfold gC
  have :=h.at_
  rw [decide_eq_true (show(1:Int)<=((n+1:Nat):Int) by omega),decide_eq_true (show((n+1:Nat):Int)<=(c.fr.length:Int) by omega),show(((n+1:Nat):Int)-1).toNat=n by omega,h.get];rfl
 have k70:=aB4 c ((n+1:Nat):Int) hc
 rw [hus] at k70
 have k28:=bEN u
 rw [hi] at k28
 have k71:=bMP _ hck.1 hck.2
 have k154:=bAX c n u (0- (c.ck.getD u.ten 0+1)) hc h hg hgr hz hl hp hpl
 have hcq:(c.gone n u (0- (c.ck.getD u.ten 0+1))).ck=c.ck:=rfl
 unfold Dc.evi
 generalize c.gone n u (0- (c.ck.getD u.ten 0+1))=g at k154 hcq⊢
 obtain⟨h1,h2,h3,h4,h5,h6,h7,h8,h9,h10,h11⟩:=h
 obtain⟨fl,fr,zo,gr,ls,ck,pt⟩:=c
 obtain⟨fl2,fr2,zo2,gr2,ls2,ck2,pt2⟩:=g
 have hfr:=hc.fr
 have hckl:=hc.ck
 dsimp only at *
 subst hcq
 have hgu:=cH fr n h1
 rw [h2] at hgu
 have hgu:(aV fr).getD n []=u.c:=hgu
 obtain⟨file,page,⟨pb,pv,pd⟩,ten,holds,rd,wr⟩:=u
 dsimp only at *
 subst hd
 have hgu:(aV fr).getD n []=[.int .i64 (file:Int),.int .i64 (page:Int),.str pb,.int .i64 (pv:Int),.int .i64 0,.int .i64 (ten:Int),.int .i64 (holds:Int),.int .i64 (rd:Int),.int .i64 (wr:Int)]:=hgu
 have hgk:(aE ck2).getD ten []=[.int .i64 (ck2.getD ten 0)]:=by simp [aE,zC,hk]
 have hsk:∀x:Int,(aE ck2).set ten (aU 1 [.int .i64 (ck2.getD ten 0)] 0 [.int .i64 x])=aE (ck2.set ten x):=λx=>by
  have :aU 1 [V.int .i64 (ck2.getD ten 0)] 0 [.int .i64 x]=[.int .i64 x]:=rfl
  rw [this];unfold aE;rw [List.map_set]
 generalize ck2.getD ten 0=w at *
 have e0:(Dc.mk fl fr zo gr ls ck2 pt).c=[.lst 15 false (bA fl),.lst 9 false (aV fr),.lst 6 false (aQ zo),.lst 3 false (bC gr),.lst 3 false (bW ls),.lst 1 false (aE ck2),.lst 5 false (aY pt)]:=rfl
 rw [e0]
 refine aF (ob0:= []) [] Tryz.func43 rfl rfl rfl rfl ?_
 refine cC k70 ?_
 rw [bU,aR (n:=((n+1:Nat):Int)-1) (by omega) (by omega),show((n+1:Nat):Int)-1=(n:Int) by omega,show decide (9=9/\0<=(n:Int)/\(n:Int)< (fr.length:Int))=true from decide_eq_true ⟨rfl,by omega,by omega⟩]
 rw [zA,hgu]
 refine cC k28 ?_
 rw [aA,show decide (1=1/\0<=(ten:Int)/\(ten:Int)< (ck2.length:Int))=true from decide_eq_true ⟨rfl,by omega,by omega⟩,zA,hgk]
 refine cC k71 ?_
 unfold Dc.o2 Dc.ob2 at k154
 dsimp only at k154
 refine .inr ⟨λ_=>⟨[],_,_,_,k154,trivial,rfl,rfl,rfl,?_⟩,(by intro h;cases h)⟩
 refine Wk ?_
 first |refine aB (⟨rfl,by omega,by rw [aA];omega⟩) ?_ |refine aH (λ_=>⟨rfl,by omega,by rw [aA];omega⟩) ?_ |refine⟨λ_=>⟨rfl,by omega,by rw [aA];omega⟩,?_⟩
 rw [zA,hgk]
 refine Wk ?_
 rw [aR (n:=w+1) (by omega) (by omega)]
 first |refine aB (⟨by omega,by omega⟩) ?_ |refine aH (λ_=>⟨by omega,by omega⟩) ?_ |refine⟨λ_=>⟨by omega,by omega⟩,?_⟩
 refine Wk ?_
 rw [show 0+(ten:Int).toNat=ten by omega,hgk]
 first |refine bG (by rw [aA];omega) (by omega) ?_ |refine aB ⟨by rw [aA];omega,by omega⟩ ?_ |refine⟨by rw [aA];omega,by omega,?_⟩
 refine Wk ?_
 refine⟨[],trivial,rfl,trivial,rfl,?_⟩
 try subst hk
 repeat' (first |exact trivial |rfl |exact .inl rfl |exact .inr rfl |exact id |exact(λh=>Bool.noConfusion h)|refine And.intro ?_ ?_)
 all_goals first
  |exact cA rfl (aZ _)
  |exact cA rfl (bU _)
  |exact cA rfl (aI _)
  |exact cA rfl (bT _)
  |exact cA rfl (aA _)
  | (rw [aZ];omega)
  | (rw [bU];omega)
  | (rw [aI];omega)
  | (rw [bT];omega)
  | (rw [aA];omega)
  |exact cA (hsk _) (by rw [zD];exact aA _)
  | (rw [zD,aA];omega)
theorem bJB(c:Dc)(n:Nat)(u:Us)(hc:SmD c)(h1:n<c.fr.length)(h2:c.fr.getD n none=some u)(hi:(mA u&&decide (u.p.d=0))=false):
 aM Tryz.prog 43 [] [.agg c.c,.int .i64 ((n+1:Nat):Int)] (.tup [.agg c.c,.int .i64 7]) []:=by
 have hus:gC c ((n+1:Nat):Int)=true:=by
  unfold gC
  rw [decide_eq_true (show(1:Int)<=((n+1:Nat):Int) by omega),decide_eq_true (show((n+1:Nat):Int)<=(c.fr.length:Int) by omega),show(((n+1:Nat):Int)-1).toNat=n by omega,h2];rfl
 have k70:=aB4 c ((n+1:Nat):Int) hc
 rw [hus] at k70
 have k28:=bEN u
 obtain⟨fl,fr,zo,gr,ls,ck,pt⟩:=c
 have hfr:=hc.fr
 dsimp only at *
 have hgu:=cH fr n h1
 rw [h2] at hgu
 have hgu:(aV fr).getD n []=u.c:=hgu
 obtain⟨file,page,⟨pb,pv,pd⟩,ten,holds,rd,wr⟩:=u
 dsimp only at *
 have hgu:(aV fr).getD n []=[.int .i64 (file:Int),.int .i64 (page:Int),.str pb,.int .i64 (pv:Int),.int .i64 (pd:Int),.int .i64 (ten:Int),.int .i64 (holds:Int),.int .i64 (rd:Int),.int .i64 (wr:Int)]:=hgu
 have e0:(Dc.mk fl fr zo gr ls ck pt).c=[.lst 15 false (bA fl),.lst 9 false (aV fr),.lst 6 false (aQ zo),.lst 3 false (bC gr),.lst 3 false (bW ls),.lst 1 false (aE ck),.lst 5 false (aY pt)]:=rfl
 rw [e0]
 rw [e0] at k70
 refine aF (ob0:= []) [] Tryz.func43 rfl rfl rfl rfl ?_
 refine cC k70 ?_
 rw [bU,aR (n:=((n+1:Nat):Int)-1) (by omega) (by omega),show((n+1:Nat):Int)-1=(n:Int) by omega,show decide (9=9/\0<=(n:Int)/\(n:Int)< (fr.length:Int))=true from decide_eq_true ⟨rfl,by omega,by omega⟩]
 rw [zA,hgu]
 refine cC k28 ?_
 cases hii:mA ⟨file,page,⟨pb,pv,pd⟩,ten,holds,rd,wr⟩ with
 |false=>
  refine Wk ?_
  try subst hk
  exact Lf
 |true=>
  rw [hii,Bool.true_and,decide_eq_false_iff_not] at hi
  refine Wk ?_
  rw [show((pd:Int) != 0)=true from bne_iff_ne.2 (by omega)]
  refine Wk ?_
  try subst hk
  exact Lf
end Go.Proofs.YtmhapcbjjpadnaaGreat
namespace Go.Proofs.YtmhapcbjjpadnaaGreat
open Go Go.Sk Go.RowKit
structure OkF(f:Df):Prop where
 E:bH f.E
 sup:rK f.E
 lo:∀p,-1000001<=(f.E p).1
 size:f.size<=128
 blocks:f.blocks<256
 ec:0<=f.ec/\f.ec<=1000000
 ee:(f.ec=0↔f.ee=0)
structure OkU(c:Dc)(n:Nat)(u:Us):Prop where
 file:u.file<c.fl.length
 page:u.page<8
 pg:dI u.p
 ten:u.ten<c.gr.length
 holds:u.holds<=255
 rd:u.rd<4
 wr:u.wr<4
 val:((c.fl.getD u.file aP).E u.page).1=((n+1:Nat):Int)
def inL(l:Ls)(x:Int):Prop:=x∈l.A\/x∈l.I
structure Ok(c:Dc):Prop where
 nf:c.fl.length<=3
 nr:c.fr.length<=64
 ng:c.gr.length<=4
 nl:c.ls.length=c.gr.length
 nk:c.ck.length=c.gr.length
 file:∀f,f<c.fl.length->OkF (c.fl.getD f aP)
 use:∀n u,n<c.fr.length->c.fr.getD n none=some u->OkU c n u
 ent:∀f p,f<c.fl.length->0< ((c.fl.getD f aP).E p).1->∃n u,n<c.fr.length/\((c.fl.getD f aP).E p).1=((n+1:Nat):Int)/\c.fr.getD n none=some u/\u.file=f/\u.page=p
 zone:bF c.zo=true
 free:∀z∈c.zo,∀x∈z.free,∃n,n<c.fr.length/\x=((n+1:Nat):Int)/\c.fr.getD n none=none
 gr:rI c.gr=true
 ls:∀t,t<c.ls.length->fJ (c.ls.getD t l0)=true
 mem:∀t x,t<c.ls.length->inL (c.ls.getD t l0) x->∃n u,n<c.fr.length/\x=((n+1:Nat):Int)/\c.fr.getD n none=some u/\u.ten=t
 ck:∀t,0<=c.ck.getD t 0/\c.ck.getD t 0<=1000000
 pt:kQ c.pt=true
theorem aUE {α:Type} (f:α->Int)(n:Nat):∀ {l:List α},(l.map f).Nodup->(∀x∈l,0<=f x/\f x<n)->l.length<=n:=by
 intro l h1 h2
 have :=tG n (l:=l.map f) (lo:=0) h1 (λx hx=>by
  obtain⟨y,hy,rfl⟩:=List.mem_map.1 hx
  have :=h2 y hy;omega)
 simpa using this
def dS(p:Pt):Int:=p.proc*64+p.page
theorem aJP {l:List Pt} (h:kQ l=true):l.length<=512:=by
 have hr:∀i,i<l.length->eC (l.getD i p0)=true/\(0<i->eB (l.getD (i-1) p0) (l.getD i p0)=true):=λi hi=>by
  have :=kY h hi
  unfold uG at this
  cases h1:eC (l.getD i p0) with
  |false=>rw [h1] at this;cases this
  |true=>
   rw [h1,zF,cond_false] at this
   refine⟨rfl,λh0=>?_⟩
   rw [decide_eq_true (show 0< (i:Int) by omega),cond_true] at this
   simpa using this
 have hb:∀i,i<l.length->(0<=(l.getD i p0).proc/\(l.getD i p0).proc<8)/\0<=(l.getD i p0).page/\(l.getD i p0).page<64:=λi hi=>by
  have :=(hr i hi).1
  unfold eC at this
  simp only [zE,zG,decide_eq_true_eq] at this
  omega
 have hstep:∀i,i+1<l.length->(l.map dS).getD i 0< (l.map dS).getD (i+1) 0:=λi hi=>by
  have h1:=(hr (i+1) hi).2 (by omega)
  have h2:=hb i (by omega)
  have h3:=hb (i+1) hi
  rw [zT] at h1
  have e1:(l.map dS).getD i 0=dS (l.getD i p0):=by simp [zC,show i<l.length by omega]
  have e2:(l.map dS).getD (i+1) 0=dS (l.getD (i+1) p0):=by simp [zC,hi]
  rw [e1,e2]
  unfold eB at h1
  unfold dS
  by_cases a:(l.getD i p0).proc< (l.getD (i+1) p0).proc
  ·omega
  ·rw [decide_eq_false a,cond_false] at h1
   by_cases b:(l.getD i p0).proc=(l.getD (i+1) p0).proc
   ·rw [beq_iff_eq.2 b,cond_true,decide_eq_true_eq] at h1;omega
   ·rw [show((l.getD i p0).proc==(l.getD (i+1) p0).proc)=false from beq_eq_false_iff_ne.2 b] at h1;cases h1
 have hasc:=aMF (l:=l.map dS) (λi hi=>hstep i (by simpa using hi))
 refine aUE dS 512 (hasc.imp λh=>by omega) λx hx=>?_
 obtain⟨i,hi,rfl⟩:=zQ hx
 have h5:=hb i hi
 have e5:l.getD i p0=l[i]:=by simp [zC,hi]
 rw [e5] at h5
 have h6:dS l[i]=l[i].proc*64+l[i].page:=rfl
 generalize l[i]=y at *
 rw [h6]
 omega
theorem Ok.sm {c:Dc} (h:Ok c):SmD c:=⟨by have :=h.nf;omega,h.nr,h.ng,by rw [h.nl];exact h.ng,by rw [h.nk];exact h.ng⟩
theorem Ok.smZ {c:Dc} (h:Ok c):eV c.zo:=nB h.zone
theorem Ok.smL {c:Dc} (h:Ok c)(t:Nat):eL (c.ls.getD t l0):=by
 by_cases ht:t<c.ls.length
 ·exact((gL _).1 (h.ls t ht)).small
 ·rw [zC,zP (zI ht)];exact⟨zN _,zN _,zN _⟩
theorem Ok.ptl {c:Dc} (h:Ok c):c.pt.length<=100000:=by have :=aJP h.pt;omega
theorem Ok.good {c:Dc} (h:Ok c) {n:Nat} {u:Us} (hn:n<c.fr.length)(hu:c.fr.getD n none=some u):jQ c n u:=by
 have k:=h.use n u hn hu
 have f:=h.file _ k.file
 exact⟨hn,hu,k.file,by have :=k.page;omega,f.E,f.sup,by rw [k.val];omega,k.pg,by rw [h.nl];exact k.ten,k.rd,k.wr⟩
def iF(u:Us):Nat×Nat×Nat:=(u.file,u.page,u.ten)
theorem Ok.same {c d:Dc} (h:Ok c)(hl:d.fl.length=c.fl.length)(hE:∀f p,((d.fl.getD f aP).E p).1=((c.fl.getD f aP).E p).1)
 (hF:∀f,f<c.fl.length->OkF (d.fl.getD f aP)) (hr:d.fr.length=c.fr.length) (hk:∀n,(d.fr.getD n none).map iF=(c.fr.getD n none).map iF)
 (hU:∀n u,n<c.fr.length->d.fr.getD n none=some u->dI u.p/\u.holds<=255/\u.rd<4/\u.wr<4) (hz:d.zo=c.zo) (hg:d.gr=c.gr)
 (hls:d.ls.length=c.ls.length) (hchk:∀t,t<c.ls.length->fJ (d.ls.getD t l0)=true) (hin:∀t x,inL (d.ls.getD t l0) x->inL (c.ls.getD t l0) x)
 (hck:d.ck=c.ck) (hpt:kQ d.pt=true):Ok d:=by
 have back:∀n u,d.fr.getD n none=some u->∃v,c.fr.getD n none=some v/\iF v=iF u:=λn u hu=>by
  have :=hk n
  rw [hu] at this
  cases hv:c.fr.getD n none with
  |none=>rw [hv] at this;cases this
  |some v=>rw [hv] at this;exact⟨v,rfl,by injection this with this;exact this.symm⟩
 have forth:∀n u,c.fr.getD n none=some u->∃v,d.fr.getD n none=some v/\iF v=iF u:=λn u hu=>by
  have :=hk n
  rw [hu] at this
  cases hv:d.fr.getD n none with
  |none=>rw [hv] at this;cases this
  |some v=>rw [hv] at this;exact⟨v,rfl,by injection this with this⟩
 refine⟨by rw [hl];exact h.nf,by rw [hr];exact h.nr,by rw [hg];exact h.ng,by rw [hls,hg];exact h.nl,by rw [hck,hg];exact h.nk,λf hf=>hF f (by rw [<-hl];exact hf),λn u hn hu=>?_,λf p hf hp=>?_,by rw [hz];exact h.zone,λz hz' x hx=>?_,by rw [hg];exact h.gr,λt ht=>hchk t (by rw [<-hls];exact ht),λt x ht hx=>?_,by rw [hck];exact h.ck,hpt⟩
 ·obtain⟨v,hv,e⟩:=back n u hu
  have kv:=h.use n v (by rw [<-hr];exact hn) hv
  obtain⟨g1,g2,g3,g4⟩:=hU n u (by rw [<-hr];exact hn) hu
  simp only [iF,Prod.mk.injEq] at e
  obtain⟨e1,e2,e3⟩:=e
  exact⟨by rw [hl,<-e1];exact kv.file,by rw [<-e2];exact kv.page,g1,by rw [hg,<-e3];exact kv.ten,g2,g3,g4,by rw [hE,<-e1,<-e2];exact kv.val⟩
 ·rw [hE] at hp
  obtain⟨n,u,k1,k2,k3,k4,k5⟩:=h.ent f p (by rw [<-hl];exact hf) hp
  obtain⟨v,hv,e⟩:=forth n u k3
  simp only [iF,Prod.mk.injEq] at e
  obtain⟨e1,e2,e3⟩:=e
  exact⟨n,v,by rw [hr];exact k1,by rw [hE];exact k2,hv,by rw [e1];exact k4,by rw [e2];exact k5⟩
 ·obtain⟨n,k1,k2,k3⟩:=h.free z (by rw [<-hz];exact hz') x hx
  refine⟨n,by rw [hr];exact k1,k2,?_⟩
  have :=hk n
  rw [k3] at this
  cases hv:d.fr.getD n none with
  |none=>rfl
  |some v=>rw [hv] at this;cases this
 ·obtain⟨n,u,k1,k2,k3,k4⟩:=h.mem t x (by rw [<-hls];exact ht) (hin t x hx)
  obtain⟨v,hv,e⟩:=forth n u k3
  simp only [iF,Prod.mk.injEq] at e
  obtain⟨e1,e2,e3⟩:=e
  exact⟨n,v,by rw [hr];exact k1,k2,hv,by rw [e3];exact k4⟩
theorem aJ {α:Type} (l:List α)(k:Nat)(x d:α)(h:k<l.length):(l.set k x).getD k d=x:=by simp [zC,h]
theorem getD_set_ne {α:Type} (l:List α) {k j:Nat} (x d:α)(h:j≠k):(l.set k x).getD j d=l.getD j d:=by simp [zC,Ne.symm h]
theorem jI {α:Type} (l:List α) {k:Nat} (x:α)(h:l.length<=k):l.set k x=l:=by
 induction l generalizing k with
 |nil=>rfl
 |cons a l ih=>
  cases k with
  |zero=>simp at h
  |succ k=>rw [List.set_cons_succ,ih (by simpa using h)]
theorem fO(f:Df)(E:cM):(eP f E).E=E:=rfl
theorem OkF.eP {f:Df} (h:OkF f) {E:cM} (h1:bH E)(h2:rK E)(h3:∀p,-1000001<=(E p).1):OkF (eP f E):=⟨h1,h2,h3,h.size,h.blocks,h.ec,h.ee⟩
theorem aAW(E:cM)(u:Us)(p:Nat):(mE E u p).1=(E p).1:=by unfold mE;rw [jN,jN]
theorem Ok.put {c:Dc} (h:Ok c) {n:Nat} {u u':Us} (hn:n<c.fr.length)(hu:c.fr.getD n none=some u)(hk:iF u'=iF u)(hp:dI u'.p)(hh:u'.holds<=255)(hr:u'.rd<4)(hw:u'.wr<4):Ok (c.put n u'):=by
 have ku:=h.use n u hn hu
 simp only [iF,Prod.mk.injEq] at hk
 obtain⟨e1,e2,e3⟩:=hk
 have hff:u'.file<c.fl.length:=by rw [e1];exact ku.file
 have kf:=h.file _ hff
 have hm:=bAM (u:=u') kf.E kf.sup (by rw [e1,e2,ku.val];omega)
 refine h.same (by simp [Dc.put,Dc.mark,Dc.setU]) (λf p=>?_) (λf hf=>?_) (by simp [Dc.put,Dc.mark,Dc.setU]) (λm=>?_) (λm v hm hv=>?_) rfl rfl rfl h.ls (λ_ _ x=>x) rfl h.pt
 ·show(((c.fl.set u'.file (eP (c.fl.getD u'.file aP) (mE (c.fl.getD u'.file aP).E u'))).getD f aP).E p).1=_
  by_cases e:f=u'.file
  ·subst e;rw [aJ _ _ _ _ hff,fO,aAW]
  ·rw [getD_set_ne _ _ _ e]
 ·show OkF ((c.fl.set u'.file (eP (c.fl.getD u'.file aP) (mE (c.fl.getD u'.file aP).E u'))).getD f aP)
  by_cases e:f=u'.file
  ·subst e;rw [aJ _ _ _ _ hff]
   exact kf.eP hm.1 hm.2 (λp=>by rw [aAW];exact kf.lo p)
  ·rw [getD_set_ne _ _ _ e];exact h.file f hf
 ·show((c.fr.set n (some u')).getD m none).map iF=_
  by_cases e:m=n
  ·subst e;rw [aJ _ _ _ _ hn,hu];simp [iF,e1,e2,e3]
  ·rw [getD_set_ne _ _ _ e]
 ·have hv:(c.fr.set n (some u')).getD m none=some v:=hv
  by_cases e:m=n
  ·subst e;rw [aJ _ _ _ _ hn] at hv;injection hv with hv;subst hv;exact⟨hp,hh,hr,hw⟩
  ·rw [getD_set_ne _ _ _ e] at hv
   have :=h.use m v hm hv
   exact⟨this.pg,this.holds,this.rd,this.wr⟩
theorem aQD {l:Ls} (hl:fJ l=true)(f:Int):fJ (mW l f).1=true/\∀x,inL (mW l f).1 x->inL l x:=by
 have hP:=(gL l).1 hl
 unfold mW
 rw [hl,zF,cond_false]
 cases h1:cG f with
 |false=>exact⟨hl,λ_ h=>h⟩
 |true=>
  rw [zF,cond_false]
  cases h2:oH l f with
  |false=>exact⟨hl,λ_ h=>h⟩
  |true=>
   rw [zF,cond_false]
   have hin:f∈l.A++l.I:=by simpa [oH] using h2
   have hk:=hP.known f hin
   cases h3:decide (f∈l.R) with
   |false=>
    rw [Bool.not_false,cond_true]
    have h3':f∉l.R:=by simpa using h3
    refine⟨(gL _).2 ⟨hP.nodup,hP.known,?_,λx hx=>?_⟩,λ_ h=>h⟩
    ·have hF:jT 1 65 l.R:=⟨hP.asc,λx hx=>by have :=hP.known x (hP.sub x hx);omega⟩
     exact(hF.ins ⟨hk.1,by omega⟩ h3').asc
    ·rcases aEE.1 hx with rfl |hx
     ·exact hin
     ·exact hP.sub x hx
   |true=>
    rw [zF,cond_false]
    cases h4:decide (f∈l.I) with
    |false=>exact⟨hl,λ_ h=>h⟩
    |true=>
     rw [cond_true]
     have h4':f∈l.I:=by simpa using h4
     have hA:=hP.notA h4'
     refine⟨(gL _).2 ⟨?_,λx hx=>?_,aWN hP.asc f,λx hx=>?_⟩,λx hx=>?_⟩
     ·show((f::wo l.A f)++wo l.I f).Nodup
      rw [aAA hA]
      have hn:=List.nodup_append.1 hP.nodup
      rw [zO,List.nodup_cons]
      refine⟨λhx=>?_,List.nodup_append.2 ⟨hn.1,aFB hn.2.1 f,λa ha b hb=>hn.2.2 a ha b (fV.1 hb).1⟩⟩
      rcases List.mem_append.1 hx with hx |hx
      ·exact hA hx
      ·exact(fV.1 hx).2 rfl
     ·have hx:x∈(f::wo l.A f)++wo l.I f:=hx
      rw [zO,zS,zH,fV,fV] at hx
      rcases hx with rfl | ⟨hx,_⟩| ⟨hx,_⟩
      ·exact hk
      ·exact hP.known x (List.mem_append_left _ hx)
      ·exact hP.known x (List.mem_append_right _ hx)
     ·have hx:x∈wo l.R f:=hx
      rw [fV] at hx
      show x∈(f::wo l.A f)++wo l.I f
      rw [zO,zS,zH,fV,fV]
      rcases List.mem_append.1 (hP.sub x hx.1) with h |h
      ·exact .inr (.inl ⟨h,hx.2⟩)
      ·exact .inr (.inr ⟨h,hx.2⟩)
     ·unfold inL at hx⊢
      dsimp only at hx
      rw [zS,fV,fV] at hx
      rcases hx with (rfl |h)|h
      ·exact .inr h4'
      ·exact .inl h.1
      ·exact .inr h.1
theorem Ok.acc {c:Dc} (h:Ok c)(n t:Nat):Ok (c.acc n t):=by
 refine h.same rfl (λ_ _=>rfl) h.file rfl (λ_=>rfl) (λm v hm hv=>?_) rfl rfl (by simp [Dc.acc]) (λs hs=>?_) (λs x hx=>?_) rfl h.pt
 ·have :=h.use m v hm hv
  exact⟨this.pg,this.holds,this.rd,this.wr⟩
 ·show fJ ((c.ls.set t (mW (c.ls.getD t l0) ((n+1:Nat):Int)).1).getD s l0)=true
  by_cases e:s=t
  ·subst e;rw [aJ _ _ _ _ hs];exact(aQD (h.ls _ hs) _).1
  ·rw [getD_set_ne _ _ _ e];exact h.ls s hs
 ·have hx:inL ((c.ls.set t (mW (c.ls.getD t l0) ((n+1:Nat):Int)).1).getD s l0) x:=hx
  by_cases e:s=t
  ·subst e
   by_cases hs:s<c.ls.length
   ·rw [aJ _ _ _ _ hs] at hx;exact(aQD (h.ls _ hs) _).2 x hx
   ·rw [jI _ _ (zI hs)] at hx;exact hx
  ·rw [getD_set_ne _ _ _ e] at hx;exact hx
end Go.Proofs.YtmhapcbjjpadnaaGreat
namespace Go.Proofs.YtmhapcbjjpadnaaGreat
open Go Go.Sk Go.RowKit
theorem tD {a b:Pt} (h1:eC a=true)(h2:eC b=true):eB a b=true↔dS a<dS b:=by
 unfold eC at h1 h2
 simp only [zE,zG,decide_eq_true_eq] at h1 h2
 unfold eB dS
 by_cases e:a.proc<b.proc
 ·rw [decide_eq_true e,cond_true]
  exact⟨λ_=>by omega,λ_=>rfl⟩
 ·rw [decide_eq_false e,cond_false]
  by_cases e2:a.proc=b.proc
  ·rw [beq_iff_eq.2 e2,cond_true,decide_eq_true_eq];omega
  ·rw [show(a.proc==b.proc)=false from beq_eq_false_iff_ne.2 e2,cond_false]
   exact⟨(λh=>by cases h),(λh=>by omega)⟩
theorem aK9(l:List Pt)(i:Nat)(h:i<l.length):l.getD i p0=l[i]:=by simp [zC,h]
theorem lT(l:List Pt):kQ l=true↔(∀x∈l,eC x=true)/\l.Pairwise (λa b=>dS a<dS b):=by
 constructor
 ·intro h
  have hr:∀i,i<l.length->eC (l.getD i p0)=true/\(0<i->eB (l.getD (i-1) p0) (l.getD i p0)=true):=λi hi=>by
   have :=kY h hi
   unfold uG at this
   cases h1:eC (l.getD i p0) with
   |false=>rw [h1] at this;cases this
   |true=>
    rw [h1,zF,cond_false] at this
    refine⟨rfl,λh0=>?_⟩
    rw [decide_eq_true (show 0< (i:Int) by omega),cond_true] at this
    simpa using this
  refine⟨λx hx=>?_,?_⟩
  ·obtain⟨i,hi,rfl⟩:=zQ hx
   rw [<-aK9 l i hi];exact(hr i hi).1
  ·have hstep:∀i,i+1<l.length->(l.map dS).getD i 0< (l.map dS).getD (i+1) 0:=λi hi=>by
    have h1:=(hr (i+1) hi).2 (by omega)
    rw [zT,tD (hr i (by omega)).1 (hr _ hi).1] at h1
    have e1:(l.map dS).getD i 0=dS (l.getD i p0):=by simp [zC,show i<l.length by omega]
    have e2:(l.map dS).getD (i+1) 0=dS (l.getD (i+1) p0):=by simp [zC,hi]
    rw [e1,e2];exact h1
   exact List.pairwise_map.1 (aMF (l:=l.map dS) (λi hi=>hstep i (by simpa using hi)))
 ·intro⟨h1,h2⟩
  have :∀n,n<=l.length->bJ (uG l) n=true:=by
   intro n
   induction n with
   |zero=>intro _;rfl
   |succ n ih=>
    intro hn
    have hb:uG l n=false:=by
     unfold uG
     rw [aK9 l n (by omega),h1 _ (zJ (by omega)),zF,cond_false]
     by_cases e:0<n
     ·rw [decide_eq_true (show 0< (n:Int) by omega),cond_true,aK9 l (n-1) (by omega),(tD (h1 _ (zJ (by omega))) (h1 _ (zJ (by omega)))).2 (List.pairwise_iff_getElem.1 h2 (n-1) n (by omega) (by omega) (by omega))]
      rfl
     ·rw [decide_eq_false (show ¬0< (n:Int) by omega),cond_false]
    simp only [bJ,ih (by omega),hb];rfl
  exact this _ (Nat.le_refl _)
theorem aTE {l:List Pt} (h:kQ l=true)(f:Int):kQ (qW l f)=true:=by
 unfold qW
 rw [h,cond_true,lT]
 have :=(lT l).1 h
 exact⟨λx hx=>this.1 x (List.mem_filter.1 hx).1,this.2.sublist List.filter_sublist⟩
theorem aOK {g:List Gr} (h:rI g=true) {t:Nat} {n:Int} (h0:0<=n)(hn:n<=64):rI (aJO g t n)=true:=by
 simp only [rI,zG] at h⊢
 rw [rP]
 refine⟨qM λi hi=>?_,h.2⟩
 have hb:=kY h.1 hi
 unfold oR aJO at *
 by_cases e:i=t
 ·subst e
  rw [aJ _ _ _ _ hi]
  simp only [aJI,Bool.or_eq_false_iff,decide_eq_false_iff_not] at hb⊢
  omega
 ·rw [getD_set_ne _ _ _ e];exact hb
theorem aWG {g:List Gr} (h:rI g=true) {t:Nat} (ht:t<g.length):rI (gB g t).1=true/\(gB g t).1.length=g.length:=by
 have hb:=aAR h ht
 unfold gB
 by_cases e:(g.getD t g0).chg<1
 ·rw [decide_eq_true e,cond_true];exact⟨h,rfl⟩
 ·rw [decide_eq_false e,cond_false]
  exact⟨aOK h (by omega) (by omega),rP _ _ _⟩
theorem aRA {l:List Zn} (h:bF l=true)(f:Int):∀z∈(eG l l f).1,∀x∈z.free,x=f\/∃z∈l,x∈z.free:=by
 have key:=aCZ (base:=l) (f:=f) h
 generalize eG l l f=q at key
 intro z hz x hx
 cases key with
 |range _=>exact .inr ⟨z,hz,hx⟩
 |free _ _ _ _=>exact .inr ⟨z,hz,hx⟩
 |ok i hi hf hm=>
  rcases List.mem_or_eq_of_mem_set hz with hz |rfl
  ·exact .inr ⟨z,hz,hx⟩
  ·rcases aEE.1 hx with rfl |hx
   ·exact .inl rfl
   ·exact .inr ⟨_,zJ hi,hx⟩
theorem aPW {l:Ls} (hl:fJ l=true) {f:Int} (hf:cG f=true):fJ (mV l f).1=true/\∀x,inL (mV l f).1 x->inL l x/\x≠f:=by
 have hP:=(gL l).1 hl
 unfold mV
 rw [hl,zF,cond_false,hf,zF,cond_false]
 cases h2:oH l f with
 |false=>
  rw [Bool.not_false,cond_true]
  refine⟨hl,λx hx=>⟨hx,λe=>?_⟩⟩
  subst e
  have :oH l x=true:=by unfold oH;rcases hx with h |h <;> simp [h]
  rw [h2] at this;cases this
 |true=>
  rw [zF,cond_false]
  have hn:=List.nodup_append.1 hP.nodup
  refine⟨(gL _).2 ⟨List.nodup_append.2 ⟨aFB hn.1 f,aFB hn.2.1 f,λa ha b hb=>hn.2.2 a (fV.1 ha).1 b (fV.1 hb).1⟩,λx hx=>?_,aWN hP.asc f,λx hx=>?_⟩,λx hx=>?_⟩
  ·have hx:x∈wo l.A f++wo l.I f:=hx
   rw [zH,fV,fV] at hx
   exact hP.known x (by rw [zH];rcases hx with h |h;exact .inl h.1;exact .inr h.1)
  ·have hx:x∈wo l.R f:=hx
   rw [fV] at hx
   show x∈wo l.A f++wo l.I f
   rw [zH,fV,fV]
   rcases List.mem_append.1 (hP.sub x hx.1) with h |h
   ·exact .inl ⟨h,hx.2⟩
   ·exact .inr ⟨h,hx.2⟩
  ·unfold inL at hx⊢
   dsimp only at hx
   rw [fV,fV] at hx
   rcases hx with h |h
   ·exact⟨.inl h.1,h.2⟩
   ·exact⟨.inr h.1,h.2⟩
theorem Ok.clk {c:Dc} (h:Ok c)(t:Nat) {x:Int} (h0:0<=x)(h1:x<=1000000):Ok ⟨c.fl,c.fr,c.zo,c.gr,c.ls,c.ck.set t x,c.pt⟩:=by
 refine⟨h.nf,h.nr,h.ng,h.nl,by rw [zD];exact h.nk,h.file,λn u hn hu=>?_,h.ent,h.zone,h.free,h.gr,h.ls,h.mem,λs=>?_,h.pt⟩
 ·have k:=h.use n u hn hu
  exact⟨k.file,k.page,k.pg,k.ten,k.holds,k.rd,k.wr,k.val⟩
 ·by_cases e:s=t
  ·subst e
   by_cases hs:s<c.ck.length
   ·rw [aJ _ _ _ _ hs];exact⟨h0,h1⟩
   ·rw [jI _ _ (zI hs)];exact h.ck s
  ·rw [getD_set_ne _ _ _ e];exact h.ck s
theorem Ok.gone {c:Dc} (h:Ok c) {n:Nat} {u:Us} (hn:n<c.fr.length)(hu:c.fr.getD n none=some u) {v:Int} (hv:v<=0)(hv2: -1000001<=v):Ok (c.gone n u v):=by
 have ku:=h.use n u hn hu
 have kf:=h.file _ ku.file
 have hx64:cG ((n+1:Nat):Int)=true:=(pE _).2 (by have :=h.nr;omega)
 have hzl:∀z∈(eG c.zo c.zo ((n+1:Nat):Int)).1,∀x∈z.free,x=((n+1:Nat):Int)\/∃z∈c.zo,x∈z.free:=aRA h.zone _
 have hgr:=aWG h.gr ku.ten
 have hE:∀f p,(((c.gone n u v).fl.getD f aP).E p).1=if f=u.file/\p=u.page then v else((c.fl.getD f aP).E p).1:=λf p=>by
  show(((c.fl.set u.file (eP (c.fl.getD u.file aP) (cI (c.fl.getD u.file aP).E u.page (v,0)))).getD f aP).E p).1=_
  by_cases e:f=u.file
  ·subst e
   rw [aJ _ _ _ _ ku.file,fO]
   by_cases e2:p=u.page
   ·subst e2;rw [dH,if_pos ⟨rfl,rfl⟩]
   ·rw [cT e2,if_neg (λh=>e2 h.2)]
  ·rw [getD_set_ne _ _ _ e,if_neg (λh=>e h.1)]
 have hfr:∀m,(c.gone n u v).fr.getD m none=if m=n then none else c.fr.getD m none:=λm=>by
  show(c.fr.set n none).getD m none=_
  by_cases e:m=n
  ·subst e;rw [aJ _ _ _ _ hn,if_pos rfl]
  ·rw [getD_set_ne _ _ _ e,if_neg e]
 have hfrl:(c.gone n u v).fr.length=c.fr.length:=zD ..
 have hfll:(c.gone n u v).fl.length=c.fl.length:=zD ..
 have hlsl:(c.gone n u v).ls.length=c.ls.length:=zD ..
 refine⟨by rw [hfll];exact h.nf,by rw [hfrl];exact h.nr,by show(gB c.gr u.ten).1.length<=4;rw [hgr.2];exact h.ng,by show(c.gone n u v).ls.length=(gB c.gr u.ten).1.length;rw [hlsl,hgr.2];exact h.nl,by show c.ck.length=(gB c.gr u.ten).1.length;rw [hgr.2];exact h.nk,λf hf=>?_,λm w hm hw=>?_,λf p hf hp=>?_,aKB (gX.refl _) h.zone,λz hz x hx=>?_,hgr.1,λt ht=>?_,λt x ht hx=>?_,h.ck,aTE h.pt _⟩
 ·show OkF ((c.fl.set u.file (eP (c.fl.getD u.file aP) (cI (c.fl.getD u.file aP).E u.page (v,0)))).getD f aP)
  by_cases e:f=u.file
  ·subst e
   rw [aJ _ _ _ _ ku.file]
   refine kf.eP (kf.E.set (Nat.zero_lt_succ _) (λ_=>rfl)) (kf.sup.set (by have :=ku.page;omega) _) (λp=>?_)
   by_cases e2:p=u.page
   ·subst e2;rw [dH];exact hv2
   ·rw [cT e2];exact kf.lo p
  ·rw [getD_set_ne _ _ _ e];exact h.file f (by rw [<-hfll];exact hf)
 ·rw [hfr] at hw
  by_cases e:m=n
  ·rw [if_pos e] at hw;cases hw
  ·rw [if_neg e] at hw
   have km:=h.use m w (by rw [<-hfrl];exact hm) hw
   first |refine aB ⟨by rw [hfll];exact km.file,km.page,km.pg,by show w.ten< (gB c.gr u.ten).1.length;rw [hgr.2];exact km.ten,km.holds,km.rd,km.wr⟩ ?_ |refine⟨by rw [hfll];exact km.file,km.page,km.pg,by show w.ten< (gB c.gr u.ten).1.length;rw [hgr.2];exact km.ten,km.holds,km.rd,km.wr,?_⟩
   rw [hE,if_neg]
   ·exact km.val
   ·intro⟨e1,e2⟩
    have :=km.val
    rw [e1,e2,ku.val] at this
    omega
 ·rw [hE] at hp⊢
  by_cases e:f=u.file/\p=u.page
  ·rw [if_pos e] at hp;omega
  ·rw [if_neg e] at hp⊢
   obtain⟨m,w,k1,k2,k3,k4,k5⟩:=h.ent f p (by rw [<-hfll];exact hf) hp
   refine⟨m,w,by rw [hfrl];exact k1,k2,?_,k4,k5⟩
   rw [hfr,if_neg]
   ·exact k3
   ·intro e2
    subst e2
    rw [hu] at k3
    injection k3 with k3
    subst k3
    exact e ⟨k4.symm,k5.symm⟩
 ·rcases hzl z hz x hx with rfl | ⟨z',hz',hx'⟩
  ·exact⟨n,by rw [hfrl];exact hn,rfl,by rw [hfr,if_pos rfl]⟩
  ·obtain⟨m,k1,k2,k3⟩:=h.free z' hz' x hx'
   refine⟨m,by rw [hfrl];exact k1,k2,?_⟩
   rw [hfr]
   split
   ·rfl
   ·exact k3
 ·have ht:t<c.ls.length:=by rw [<-hlsl];exact ht
  show fJ ((c.ls.set u.ten (mV (c.ls.getD u.ten l0) ((n+1:Nat):Int)).1).getD t l0)=true
  by_cases e:t=u.ten
  ·subst e;rw [aJ _ _ _ _ ht];exact(aPW (h.ls _ ht) hx64).1
  ·rw [getD_set_ne _ _ _ e];exact h.ls t ht
 ·have ht:t<c.ls.length:=by rw [<-hlsl];exact ht
  have hx:inL ((c.ls.set u.ten (mV (c.ls.getD u.ten l0) ((n+1:Nat):Int)).1).getD t l0) x:=hx
  by_cases e:t=u.ten
  ·subst e
   rw [aJ _ _ _ _ ht] at hx
   obtain⟨g1,g2⟩:=(aPW (h.ls _ ht) hx64).2 x hx
   obtain⟨m,w,k1,k2,k3,k4⟩:=h.mem _ x ht g1
   refine⟨m,w,by rw [hfrl];exact k1,k2,?_,k4⟩
   rw [hfr,if_neg]
   ·exact k3
   ·intro e2;subst e2;exact g2 k2
  ·rw [getD_set_ne _ _ _ e] at hx
   obtain⟨m,w,k1,k2,k3,k4⟩:=h.mem t x ht hx
   refine⟨m,w,by rw [hfrl];exact k1,k2,?_,k4⟩
   rw [hfr,if_neg]
   ·exact k3
   ·intro e2
    subst e2
    rw [hu] at k3
    injection k3 with k3
    subst k3
    exact e k4.symm
theorem Ok.evi {c:Dc} (h:Ok c) {n:Nat} {u:Us} (hn:n<c.fr.length)(hu:c.fr.getD n none=some u):Ok (c.evi n u):=by
 have hk:=h.ck u.ten
 exact(h.gone hn hu (by omega) (by omega)).clk _ (by omega) (by omega)
end Go.Proofs.YtmhapcbjjpadnaaGreat
namespace Go.Proofs.YtmhapcbjjpadnaaGreat
open Go Go.Sk Go.RowKit
theorem aO3(c:Dc)(n:Int):gC c n=false\/∃(m:Nat) (u:Us),n=((m+1:Nat):Int)/\m<c.fr.length/\c.fr.getD m none=some u:=by
 cases h:gC c n with
 |false=>exact .inl rfl
 |true=>
  refine .inr ?_
  unfold gC at h
  simp only [zE,zG,decide_eq_true_eq] at h
  obtain⟨⟨h1,h2⟩,h3⟩:=h
  obtain⟨u,hu⟩:=Option.isSome_iff_exists.1 h3
  exact⟨(n-1).toNat,u,by omega,by omega,hu⟩
theorem nX {c:Dc} {n:Nat} {u:Us} (h1:n<c.fr.length)(h2:c.fr.getD n none=some u):gC c ((n+1:Nat):Int)=true:=by
 unfold gC
 rw [decide_eq_true (show(1:Int)<=((n+1:Nat):Int) by omega),decide_eq_true (show((n+1:Nat):Int)<=(c.fr.length:Int) by omega),show(((n+1:Nat):Int)-1).toNat=n by omega,h2];rfl
theorem bJG(c:Dc)(n k:Int)(hc:SmD c)(hu:gC c n=false):aM Tryz.prog 45 [] [.agg c.c,.int .i64 n,.int .i64 k] (.tup [.agg c.c,.int .i64 2]) []:=by
 have k70:=aB4 c n hc
 rw [hu] at k70
 obtain⟨fl,fr,zo,gr,ls,ck,pt⟩:=c
 refine aF (ob0:= []) [] Tryz.func45 rfl rfl rfl rfl ?_
 refine cC k70 ?_
 try subst hk
 exact Lf
def aBT(u:Us)(h:Nat):Us:=⟨u.file,u.page,u.p,u.ten,h,u.rd,u.wr⟩
theorem bMD(c:Dc)(n:Nat)(u:Us)(hc:SmD c)(h:jQ c n u)(hh:u.holds<=255)(k:Int)(hk: -255<=k/\k<=255)(h0:0<=(u.holds:Int)+k)(h255:(u.holds:Int)+k<=255)(hg':jQ (c.setU n (aBT u ((u.holds:Int)+k).toNat)) n (aBT u ((u.holds:Int)+k).toNat)):
 aM Tryz.prog 45 [] [.agg c.c,.int .i64 ((n+1:Nat):Int),.int .i64 k] (.tup [.agg (c.put n (aBT u ((u.holds:Int)+k).toNat)).c,.int .i64 0]) []:=by
 have h1:=h.at_
 have h2:=h.get
 have k70:=aB4 c ((n+1:Nat):Int) hc
 rw [nX h1 h2] at k70
 have hfr:=hc.fr
 have hgu:=cH c.fr n h1
 rw [h2] at hgu
 have k155:=aUJ c n (aBT u ((u.holds:Int)+k).toNat) hc hg'
 generalize c.put n (aBT u ((u.holds:Int)+k).toNat)=d at *
 unfold Us.c aBT at k155
 dsimp only at k155
 rw [show((((u.holds:Int)+k).toNat:Nat):Int)=(u.holds:Int)+k by omega] at k155
 obtain⟨fl,fr,zo,gr,ls,ck,pt⟩:=c
 obtain⟨file,page,⟨pb,pv,pd⟩,ten,holds,rd,wr⟩:=u
 have hgu:(aV fr).getD n []=[.int .i64 (file:Int),.int .i64 (page:Int),.str pb,.int .i64 (pv:Int),.int .i64 (pd:Int),.int .i64 (ten:Int),.int .i64 (holds:Int),.int .i64 (rd:Int),.int .i64 (wr:Int)]:=hgu
 have e0:(Dc.mk fl fr zo gr ls ck pt).c=[.lst 15 false (bA fl),.lst 9 false (aV fr),.lst 6 false (aQ zo),.lst 3 false (bC gr),.lst 3 false (bW ls),.lst 1 false (aE ck),.lst 5 false (aY pt)]:=rfl
 rw [e0] at k70
 dsimp only at *
 rw [e0] at k155⊢
 obtain⟨fl2,fr2,zo2,gr2,ls2,ck2,pt2⟩:=d
 refine aF (ob0:= []) [] Tryz.func45 rfl rfl rfl rfl ?_
 refine cC k70 ?_
 rw [bU,aR (n:=((n+1:Nat):Int)-1) (by omega) (by omega),show((n+1:Nat):Int)-1=(n:Int) by omega,show decide (9=9/\0<=(n:Int)/\(n:Int)< (fr.length:Int))=true from decide_eq_true ⟨rfl,by omega,by omega⟩]
 rw [zA,hgu]
 refine Wk ?_
 rw [aR (n:=(holds:Int)+k) (by omega) (by omega),show decide (k< -255)=false from decide_eq_false (by omega),show decide (255<k)=false from decide_eq_false (by omega),show decide ((holds:Int)+k<0)=false from decide_eq_false (by omega),show decide (255< (holds:Int)+k)=false from decide_eq_false (by omega)]
 refine Wk ?_
 rw [aR (n:=(holds:Int)+k) (by omega) (by omega)]
 refine cC k155 ?_
 try subst hk
 exact Lf
theorem bJE(c:Dc)(n:Nat)(u:Us)(hc:SmD c)(h:jQ c n u)(hh:u.holds<=255)(k:Int)(hk:¬((-255<=k/\k<=255)/\0<=(u.holds:Int)+k/\(u.holds:Int)+k<=255)):
 aM Tryz.prog 45 [] [.agg c.c,.int .i64 ((n+1:Nat):Int),.int .i64 k] (.tup [.agg c.c,.int .i64 1]) []:=by
 have h1:=h.at_
 have h2:=h.get
 have k70:=aB4 c ((n+1:Nat):Int) hc
 rw [nX h1 h2] at k70
 have hfr:=hc.fr
 have hgu:=cH c.fr n h1
 rw [h2] at hgu
 obtain⟨fl,fr,zo,gr,ls,ck,pt⟩:=c
 obtain⟨file,page,⟨pb,pv,pd⟩,ten,holds,rd,wr⟩:=u
 have hgu:(aV fr).getD n []=[.int .i64 (file:Int),.int .i64 (page:Int),.str pb,.int .i64 (pv:Int),.int .i64 (pd:Int),.int .i64 (ten:Int),.int .i64 (holds:Int),.int .i64 (rd:Int),.int .i64 (wr:Int)]:=hgu
 have e0:(Dc.mk fl fr zo gr ls ck pt).c=[.lst 15 false (bA fl),.lst 9 false (aV fr),.lst 6 false (aQ zo),.lst 3 false (bC gr),.lst 3 false (bW ls),.lst 1 false (aE ck),.lst 5 false (aY pt)]:=rfl
 rw [e0] at k70
 dsimp only at *
 rw [e0]
 have key:(bif bif bif decide (k< -255) then true else decide (255<k) then true else decide (IntKind.i64.wrap ((holds:Int)+k)<0) then true else decide (255<IntKind.i64.wrap ((holds:Int)+k)))=true:=by
  by_cases a1:k< -255
  ·rw [decide_eq_true a1];rfl
  by_cases a2:255<k
  ·rw [decide_eq_true a2];cases decide (k< -255)<;> rfl
  rw [decide_eq_false a1,decide_eq_false a2,aR (n:=(holds:Int)+k) (by omega) (by omega)]
  by_cases a3:(holds:Int)+k<0
  ·rw [decide_eq_true a3];rfl
  rw [decide_eq_false a3,decide_eq_true (show 255< (holds:Int)+k by omega)];rfl
 refine aF (ob0:= []) [] Tryz.func45 rfl rfl rfl rfl ?_
 refine cC k70 ?_
 rw [bU,aR (n:=((n+1:Nat):Int)-1) (by omega) (by omega),show((n+1:Nat):Int)-1=(n:Int) by omega,show decide (9=9/\0<=(n:Int)/\(n:Int)< (fr.length:Int))=true from decide_eq_true ⟨rfl,by omega,by omega⟩]
 rw [zA,hgu]
 refine Wk ?_
 rw [key]
 refine Wk ?_
 try subst hk
 exact Lf
theorem bJI(c:Dc)(n k:Int)(hc:SmD c)(hu:gC c n=false):aM Tryz.prog 47 [] [.agg c.c,.int .i64 n,.int .i64 k] (.tup [.agg c.c,.int .i64 2]) []:=by
 have k70:=aB4 c n hc
 rw [hu] at k70
 obtain⟨fl,fr,zo,gr,ls,ck,pt⟩:=c
 refine aF (ob0:= []) [] Tryz.func47 rfl rfl rfl rfl ?_
 refine cC k70 ?_
 try subst hk
 exact Lf
def aC6(u:Us)(r:Nat):Us:=⟨u.file,u.page,u.p,u.ten,u.holds,r,u.wr⟩
theorem bME(c:Dc)(n:Nat)(u:Us)(hc:SmD c)(h:jQ c n u)(k:Nat)(hk:1<=k/\k<=3)(hz:k &&& (u.p.v ||| u.rd)=0)(hg':jQ (c.setU n (aC6 u (u.rd ||| k))) n (aC6 u (u.rd ||| k))):
 aM Tryz.prog 47 [] [.agg c.c,.int .i64 ((n+1:Nat):Int),.int .i64 (k:Int)] (.tup [.agg (c.put n (aC6 u (u.rd ||| k))).c,.int .i64 0]) []:=by
 have h1:=h.at_
 have h2:=h.get
 have k70:=aB4 c ((n+1:Nat):Int) hc
 rw [nX h1 h2] at k70
 have hfr:=hc.fr
 have hgu:=cH c.fr n h1
 rw [h2] at hgu
 have k155:=aUJ c n (aC6 u (u.rd ||| k)) hc hg'
 have hv4:=h.pg.v
 have hr4:=h.rd
 generalize c.put n (aC6 u (u.rd ||| k))=d at *
 unfold Us.c aC6 at k155
 dsimp only at k155
 obtain⟨fl,fr,zo,gr,ls,ck,pt⟩:=c
 obtain⟨file,page,⟨pb,pv,pd⟩,ten,holds,rd,wr⟩:=u
 have hgu:(aV fr).getD n []=[.int .i64 (file:Int),.int .i64 (page:Int),.str pb,.int .i64 (pv:Int),.int .i64 (pd:Int),.int .i64 (ten:Int),.int .i64 (holds:Int),.int .i64 (rd:Int),.int .i64 (wr:Int)]:=hgu
 have e0:(Dc.mk fl fr zo gr ls ck pt).c=[.lst 15 false (bA fl),.lst 9 false (aV fr),.lst 6 false (aQ zo),.lst 3 false (bC gr),.lst 3 false (bW ls),.lst 1 false (aE ck),.lst 5 false (aY pt)]:=rfl
 rw [e0] at k70
 dsimp only at *
 rw [e0] at k155⊢
 obtain⟨fl2,fr2,zo2,gr2,ls2,ck2,pt2⟩:=d
 refine aF (ob0:= []) [] Tryz.func47 rfl rfl rfl rfl ?_
 refine cC k70 ?_
 rw [bU,aR (n:=((n+1:Nat):Int)-1) (by omega) (by omega),show((n+1:Nat):Int)-1=(n:Int) by omega,show decide (9=9/\0<=(n:Int)/\(n:Int)< (fr.length:Int))=true from decide_eq_true ⟨rfl,by omega,by omega⟩]
 rw [zA,hgu]
 refine Wk ?_
 have ho4:pv ||| rd<4:=zV (n:=2) hv4 hr4
 rw [cR (x:=pv) (y:=rd) (by omega) (by omega),sW (by omega) (by omega),hz,show decide ((k:Int)<1)=false from decide_eq_false (by omega),show decide (3< (k:Int))=false from decide_eq_false (by omega)]
 refine Wk ?_
 rw [cR (x:=rd) (y:=k) (by omega) (by omega)]
 refine cC k155 ?_
 try subst hk
 exact Lf
theorem bJH(c:Dc)(n:Nat)(u:Us)(hc:SmD c)(h:jQ c n u)(k:Int)(hk:¬((1<=k/\k<=3)/\k.toNat &&& (u.p.v ||| u.rd)=0)):
 aM Tryz.prog 47 [] [.agg c.c,.int .i64 ((n+1:Nat):Int),.int .i64 k] (.tup [.agg c.c,.int .i64 1]) []:=by
 have h1:=h.at_
 have h2:=h.get
 have k70:=aB4 c ((n+1:Nat):Int) hc
 rw [nX h1 h2] at k70
 have hfr:=hc.fr
 have hgu:=cH c.fr n h1
 rw [h2] at hgu
 have hv4:=h.pg.v
 have hr4:=h.rd
 obtain⟨fl,fr,zo,gr,ls,ck,pt⟩:=c
 obtain⟨file,page,⟨pb,pv,pd⟩,ten,holds,rd,wr⟩:=u
 have hgu:(aV fr).getD n []=[.int .i64 (file:Int),.int .i64 (page:Int),.str pb,.int .i64 (pv:Int),.int .i64 (pd:Int),.int .i64 (ten:Int),.int .i64 (holds:Int),.int .i64 (rd:Int),.int .i64 (wr:Int)]:=hgu
 have e0:(Dc.mk fl fr zo gr ls ck pt).c=[.lst 15 false (bA fl),.lst 9 false (aV fr),.lst 6 false (aQ zo),.lst 3 false (bC gr),.lst 3 false (bW ls),.lst 1 false (aE ck),.lst 5 false (aY pt)]:=rfl
 rw [e0] at k70
 dsimp only at *
 rw [e0]
 refine aF (ob0:= []) [] Tryz.func47 rfl rfl rfl rfl ?_
 refine cC k70 ?_
 rw [bU,aR (n:=((n+1:Nat):Int)-1) (by omega) (by omega),show((n+1:Nat):Int)-1=(n:Int) by omega,show decide (9=9/\0<=(n:Int)/\(n:Int)< (fr.length:Int))=true from decide_eq_true ⟨rfl,by omega,by omega⟩]
 rw [zA,hgu]
 refine Wk ?_
 have ho4:pv ||| rd<4:=zV (n:=2) hv4 hr4
 have key:(bif bif decide (k<1) then true else decide (3<k) then true else fH BinOp.and IntKind.i64 k (fH BinOp.or IntKind.i64 (pv:Int) (rd:Int)) != 0)=true:=by
  by_cases a1:k<1
  ·rw [decide_eq_true a1];rfl
  by_cases a2:3<k
  ·rw [decide_eq_true a2];cases decide (k<1)<;> rfl
  obtain⟨m,rfl⟩:∃m:Nat,k=(m:Int):=⟨k.toNat,by omega⟩
  rw [zA] at hk
  rw [decide_eq_false a1,decide_eq_false a2,cR (x:=pv) (y:=rd) (by omega) (by omega),sW (by omega) (by omega)]
  have :m &&& (pv ||| rd)≠0:=λe=>hk ⟨⟨by omega,by omega⟩,e⟩
  simp only [cond_false,bne_iff_ne];omega
 rw [key]
 refine Wk ?_
 try subst hk
 exact Lf
end Go.Proofs.YtmhapcbjjpadnaaGreat
namespace Go.Proofs.YtmhapcbjjpadnaaGreat
open Go Go.Sk Go.RowKit
attribute [simp] aA bU aZ aG aI bT aS
theorem jB {c:Dc} {n:Nat} {u:Us} (h1:n<c.fr.length)(h2:c.fr.getD n none=some u):(aV c.fr).getD n []=u.c:=by rw [cH c.fr n h1,h2];rfl
theorem iS {c:Dc} {f:Nat} (h1:f<c.fl.length):(bA c.fl).getD f []=(c.fl.getD f aP).c:=eJ c.fl f h1
theorem Ok.use70 {c:Dc} (h:Ok c) {n:Nat} {u:Us} (h1:n<c.fr.length)(h2:c.fr.getD n none=some u):aM Tryz.prog 70 [] [.agg c.c,.int .i64 ((n+1:Nat):Int)] (.bool true) []:=by
 have :=aB4 c ((n+1:Nat):Int) h.sm
 rwa [nX h1 h2] at this
theorem Ok.use96 {c:Dc} (h:Ok c) {n:Nat} {u:Us} (h1:n<c.fr.length)(h2:c.fr.getD n none=some u):aM Tryz.prog 96 [] [.agg c.c,.int .i64 ((n+1:Nat):Int)] (.bool true) []:=by
 have :=bJW c ((n+1:Nat):Int) h.sm
 rwa [nX h1 h2] at this
end Go.Proofs.YtmhapcbjjpadnaaGreat
