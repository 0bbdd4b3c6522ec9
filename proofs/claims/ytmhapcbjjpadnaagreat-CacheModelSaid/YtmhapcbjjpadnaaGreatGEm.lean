/- Caches. -/
import Derived.Test.YtmhapcbjjpadnaaGreatGDm
import Derived.Test.YtmhapcbjjpadnaaGreatG6m
import Derived.Test.YtmhapcbjjpadnaaGreatGCm
import Derived.Test.YtmhapcbjjpadnaaGreatG4m
import Derived.Test.YtmhapcbjjpadnaaGreatK8m
set_option linter.unusedSimpArgs false
set_option linter.unusedVariables false
open Bool renaming not_true→zC,cond_false_right→zF,and_eq_true→zH
open Int renaming toNat_natCast→zD
open List renaming getD_eq_getElem?_getD→zA,mem_append→zE,getElem_mem→zI,length_set→zJ,cons_append→zK,getElem?_eq_none→zL,getElem_of_mem→zM,mem_cons→zN
open Nat renaming le_of_not_lt→zG,add_sub_cancel→zO,zero_le→zP
set_option linter.constructorNameAsVariable false
set_option maxRecDepth 40000
namespace Go.Proofs.YtmhapcbjjpadnaaGreat
open Go Go.Sk Go.RowKit
theorem rT(L:List Ls)(k:Nat)(h:k<L.length):(cN L).getD k []=(L.getD k l0).c:=by
 have :=aLV L k h;rwa [zD] at this
def Dc.acc(c:Dc)(n:Nat)(t:Nat):Dc:=⟨c.fl,c.fr,c.zo,c.gr,c.ls.set t (sG (c.ls.getD t l0) ((n+1:Nat):Int)).1,c.ck,c.pt⟩
def oA(c:Dc)(n:Int):Bool:=bif (bif decide (1≤n) then decide (n≤(c.fr.length:Int)) else false) then(c.fr.getD (n-1).toNat none).isSome else false
def pR(u:Us):Bool:=bif (bif (u.holds:Int)==0 then(u.rd:Int)==0 else false) then(u.wr:Int)==0 else false
theorem aZJ(u:Us):aQ Tryz.prog 151 [] [.agg u.c] (.bool (pR u)) []:=by
 obtain⟨file,page,p,ten,holds,rd,wr⟩:=u
 refine aF (ob0:= []) [] Tryz.func151 rfl rfl rfl rfl ?_
 refine Wk ?_
 try subst hk
 exact Lf
theorem aFG(L:List (Option Us))(k:Nat):(bE L).getD k []=[]∨∃o,(bE L).getD k []=frC o:=by
 by_cases h:k<L.length
 ·exact .inr ⟨_,jM L k h⟩
 ·exact .inl (by simp [bE,zA,zL (zG h)])
end Go.Proofs.YtmhapcbjjpadnaaGreat
set_option maxRecDepth 40000
namespace Go.Proofs.YtmhapcbjjpadnaaGreat
open Go Go.Sk Go.RowKit
def findF(E:cI)(i:Int):Int×Bool:=bif decide (aUW E i≤0) then(0,false) else(aUW E i,true)
theorem aD7(c:Dc)(f:Nat)(hf:f<c.fl.length):aQ Tryz.prog 141 [] [.agg c.c,.int .i64 (f:Int)] (.bool true) []:=by
 obtain⟨fl,fr,zo,gr,ls,ck,pt⟩:=c
 dsimp only at hf
 show aQ Tryz.prog 141 [] [.agg [.lst 15 false (bG fl),.lst 9 false (bE fr),.lst 6 false (aW zo),.lst 3 false (bP gr),.lst 3 false (cN ls),.lst 1 false (aJ ck),.lst 5 false (bQ pt)],.int .i64 (f:Int)] (.bool true) []
 refine aF (ob0:= []) [] Tryz.func141 rfl rfl rfl rfl ?_
 refine Wk ?_
 rw [bV,show decide ((0:Int)≤(f:Int))=true from decide_eq_true (by omega),show decide ((f:Int)< (fl.length:Int))=true from decide_eq_true (by omega)]
 try subst hk
 exact Lf
set_option maxRecDepth 20000 in
theorem aNP(c:Dc)(f:Nat)(i:Nat)(hi:i<16)(hc:SmD c)(hf:f<c.fl.length)(hE:bK (c.fl.getD f aK).E)(hs:tJ (c.fl.getD f aK).E):
 aQ Tryz.prog 138 [] [.agg c.c,.int .i64 (f:Int),.int .i64 (i:Int)] (.tup [.int .i64 (findF (c.fl.getD f aK).E (i:Int)).1,.bool (findF (c.fl.getD f aK).E (i:Int)).2]) []:=by
 have k141:=aD7 c f hf
 have k143:=aT2 hE hs i hi
 obtain⟨fl,fr,zo,gr,ls,ck,pt⟩:=c
 dsimp only at hf hE hs k143⊢
 have hgf:=iE fl f hf
 generalize fl.getD f aK=x at *
 obtain⟨k0,k1,k2,k3,e⟩:=bC hE
 have hfc:x.c=[.int .i64 x.dev,.int .i64 x.slot,.int .i64 (hgt x.E:Int),.lst k0 k1 k2,.int .i64 k3,.int .i64 (lS x.E 0 (4^hgt x.E):Nat),.int .i64 (x.size:Int),.int .i64 (x.blocks:Int),.int .i64 x.ec,.int .i64 x.ee,.int .i64 0,.int .i64 0,.int .i64 0,.int .i64 0,.int .i64 0]:=by unfold Df.c;rw [e];rfl
 rw [hfc] at hgf
 rw [e] at k143
 generalize hk:findF x.E (i:Int)=q
 unfold findF at hk
 rw [show aUW x.E (i:Int)=(x.E i).1 by unfold aUW;rw [decide_eq_true (by omega),cond_true,zD]] at hk
 generalize(x.E i).1=v at k143 hk
 refine aF (ob0:= []) [] Tryz.func138 rfl rfl rfl rfl ?_
 refine dF k141 ?_
 first |refine aE (⟨rfl,by omega,by show(f:Int)< ((bG fl).length:Int);rw [bV];omega⟩) ?_ |refine aM (fun _=>⟨rfl,by omega,by show(f:Int)< ((bG fl).length:Int);rw [bV];omega⟩) ?_ |refine⟨fun _=>⟨rfl,by omega,by show(f:Int)< ((bG fl).length:Int);rw [bV];omega⟩,?_⟩
 rw [zD,hgf]
 refine dF k143 ?_
 cases c1:decide (v≤0) with
 |true=>
  rw [c1,cond_true] at hk
  subst hk
  rw [decide_eq_true_eq] at c1
  rw [show max v 0=0 by omega,show decide (0<v)=false from decide_eq_false (by omega)]
  try subst hk
  exact Lf
 |false=>
  rw [c1,cond_false] at hk
  subst hk
  rw [decide_eq_false_iff_not] at c1
  rw [show max v 0=v by omega,show decide (0<v)=true from decide_eq_true (by omega)]
  try subst hk
  exact Lf
set_option maxRecDepth 20000 in
theorem aTR(c:Dc)(n:Int)(hc:SmD c):aQ Tryz.prog 96 [] [.agg c.c,.int .i64 n] (.bool (oA c n)) []:=by
 obtain⟨fl,fr,zo,gr,ls,ck,pt⟩:=c
 have hfr:=hc.fr
 dsimp only at hfr
 generalize hk:oA ⟨fl,fr,zo,gr,ls,ck,pt⟩ n=q
 unfold oA at hk
 dsimp only at hk
 show aQ Tryz.prog 96 [] [.agg [.lst 15 false (bG fl),.lst 9 false (bE fr),.lst 6 false (aW zo),.lst 3 false (bP gr),.lst 3 false (cN ls),.lst 1 false (aJ ck),.lst 5 false (bQ pt)],.int .i64 n] (.bool q) []
 refine aF (ob0:= []) [] Tryz.func96 rfl rfl rfl rfl ?_
 refine Wk ?_
 rw [eV]
 cases h1:(bif decide (1≤n) then decide (n≤(fr.length:Int)) else false) with
 |false=>
  rw [h1,cond_false] at hk
  subst hk
  refine Wk ?_
  rcases aFG fr (IntKind.i64.wrap (n-1)).toNat with h2 | ⟨o,h2⟩
  ·rw [h2]
   refine Wk ?_
   try subst hk
   exact Lf
  ·rw [h2]
   cases o with
   |none=>
    refine Wk ?_
    try subst hk
    exact Lf
   |some u=>
    refine Wk ?_
    try subst hk
    exact Lf
 |true=>
  rw [h1,cond_true] at hk
  have hb:1≤n∧n≤(fr.length:Int):=by
   by_cases a:1≤n
   ·rw [decide_eq_true a,cond_true,decide_eq_true_eq] at h1;exact⟨a,h1⟩
   ·rw [decide_eq_false a] at h1;cases h1
  obtain⟨m,rfl⟩:∃m:Nat,n=((m+1:Nat):Int):=⟨(n-1).toNat,by omega⟩
  rw [show(((m+1:Nat):Int)-1).toNat=m by omega] at hk
  have hg:=jM fr m (by omega)
  rw [aY (n:=((m+1:Nat):Int)-1) (by omega) (by omega),show((m+1:Nat):Int)-1=(m:Int) by omega]
  refine aE ⟨rfl,by omega,by omega⟩ ?_
  rw [zD,hg]
  cases ho:fr.getD m none with
  |none=>
   rw [ho] at hk
   subst hk
   refine Wk ?_
   try subst hk
   exact Lf
  |some u=>
   rw [ho] at hk
   subst hk
   obtain⟨file,page,p,ten,holds,rd,wr⟩:=u
   refine Wk ?_
   rw [show decide ((0:Int)≤(file:Int))=true from decide_eq_true (by omega)]
   try subst hk
   exact Lf
end Go.Proofs.YtmhapcbjjpadnaaGreat
set_option maxRecDepth 40000
namespace Go.Proofs.YtmhapcbjjpadnaaGreat
open Go Go.Sk Go.RowKit
def iV(p:Pt):Bool:=bif (bif (bif (bif (bif decide (0≤p.proc) then decide (p.proc<8) else false) then decide (0≤p.page) else false) then decide (p.page<64) else false) then decide (1≤p.frame) else false) then decide (p.frame≤64) else false
def mG(a b:Pt):Bool:=bif decide (a.proc<b.proc) then true else bif a.proc==b.proc then decide (a.page<b.page) else false
def aC2(l:List Pt)(j:Nat):Bool:=bif !iV (l.getD j p0) then true else bif decide (0< (j:Int)) then !mG (l.getD (j-1) p0) (l.getD j p0) else false
def aB9(l:List Pt):Bool:=bO (aC2 l) l.length
theorem aA4(L:List Pt)(k:Nat)(h:k<L.length):(bQ L).getD k []=(L.getD k p0).c:=by
 have :=aLX L k h;rwa [zD] at this
def aBC(f:Int)(p:Pt):Bool:=p.frame != f
def tX(l:List Pt)(f:Int):List Pt:=bif aB9 l then l.filter (aBC f) else l
end Go.Proofs.YtmhapcbjjpadnaaGreat
set_option maxRecDepth 40000
namespace Go.Proofs.YtmhapcbjjpadnaaGreat
open Go Go.Sk Go.RowKit
def Dc.o2(c:Dc):List V:= [.sl 0 0 c.fl.length,.sl 1 0 c.fr.length,.lst 6 false (aW c.zo),.lst 3 false (bP c.gr),.sl 2 0 c.ls.length,.sl 3 0 c.ck.length,.lst 5 false (bQ c.pt)]
def Dc.ob2(c:Dc):List Sk.Obj:= [.row 15 (bG c.fl),.row 9 (bE c.fr),.row 3 (cN c.ls),.row 1 (aJ c.ck)]
def Dc.gone(c:Dc)(n:Nat)(u:Us)(v:Int):Dc:=
 ⟨c.fl.set u.file (dG (c.fl.getD u.file aK) (dA (c.fl.getD u.file aK).E u.page (v,0))),c.fr.set n none,(eB c.zo c.zo ((n+1:Nat):Int)).1,(iX c.gr u.ten).1,c.ls.set u.ten (sE (c.ls.getD u.ten l0) ((n+1:Nat):Int)).1,c.ck,tX c.pt ((n+1:Nat):Int)⟩
end Go.Proofs.YtmhapcbjjpadnaaGreat
set_option maxRecDepth 40000
namespace Go.Proofs.YtmhapcbjjpadnaaGreat
open Go Go.Sk Go.RowKit
def Dc.evi(c:Dc)(n:Nat)(u:Us):Dc:=
 let d:=c.gone n u (0- (c.ck.getD u.ten 0+1))
 ⟨d.fl,d.fr,d.zo,d.gr,d.ls,d.ck.set u.ten (min (c.ck.getD u.ten 0+1) 1000000),d.pt⟩
end Go.Proofs.YtmhapcbjjpadnaaGreat
set_option maxRecDepth 40000
namespace Go.Proofs.YtmhapcbjjpadnaaGreat
open Go Go.Sk Go.RowKit
structure OkF(f:Df):Prop where
 E:bK f.E
 sup:tJ f.E
 lo:∀p,-1000001≤(f.E p).1
 size:f.size≤128
 blocks:f.blocks<256
 ec:0≤f.ec∧f.ec≤1000000
 ee:(f.ec=0↔f.ee=0)
structure OkU(c:Dc)(n:Nat)(u:Us):Prop where
 file:u.file<c.fl.length
 page:u.page<8
 pg:dU u.p
 ten:u.ten<c.gr.length
 holds:u.holds≤255
 rd:u.rd<4
 wr:u.wr<4
 val:((c.fl.getD u.file aK).E u.page).1=((n+1:Nat):Int)
def inL(l:Ls)(x:Int):Prop:=x∈l.A∨x∈l.I
structure Ok(c:Dc):Prop where
 nf:c.fl.length≤3
 nr:c.fr.length≤64
 ng:c.gr.length≤4
 nl:c.ls.length=c.gr.length
 nk:c.ck.length=c.gr.length
 file:∀f,f<c.fl.length→OkF (c.fl.getD f aK)
 use:∀n u,n<c.fr.length→c.fr.getD n none=some u→OkU c n u
 ent:∀f p,f<c.fl.length→0< ((c.fl.getD f aK).E p).1→∃n u,n<c.fr.length∧((c.fl.getD f aK).E p).1=((n+1:Nat):Int)∧c.fr.getD n none=some u∧u.file=f∧u.page=p
 zone:bH c.zo=true
 free:∀z∈c.zo,∀x∈z.free,∃n,n<c.fr.length∧x=((n+1:Nat):Int)∧c.fr.getD n none=none
 gr:vC c.gr=true
 ls:∀t,t<c.ls.length→iI (c.ls.getD t l0)=true
 mem:∀t x,t<c.ls.length→inL (c.ls.getD t l0) x→∃n u,n<c.fr.length∧x=((n+1:Nat):Int)∧c.fr.getD n none=some u∧u.ten=t
 ck:∀t,0≤c.ck.getD t 0∧c.ck.getD t 0≤1000000
 pt:aB9 c.pt=true
theorem aSX {α:Type} (f:α→Int)(n:Nat):∀ {l:List α},(l.map f).Nodup→(∀x∈l,0≤f x∧f x<n)→l.length≤n:=by
 intro l h1 h2
 have :=rP n (l:=l.map f) (lo:=0) h1 (fun x hx=>by
  obtain⟨y,hy,rfl⟩:=List.mem_map.1 hx
  have :=h2 y hy;omega)
 simpa using this
def lR(p:Pt):Int:=p.proc*64+p.page
theorem aRM {l:List Pt} (h:aB9 l=true):l.length≤512:=by
 have hr:∀i,i<l.length→iV (l.getD i p0)=true∧(0<i→mG (l.getD (i-1) p0) (l.getD i p0)=true):=fun i hi=>by
  have :=kC h hi
  unfold aC2 at this
  cases h1:iV (l.getD i p0) with
  |false=>rw [h1] at this;cases this
  |true=>
   rw [h1,zC,cond_false] at this
   refine⟨rfl,fun h0=>?_⟩
   rw [decide_eq_true (show 0< (i:Int) by omega),cond_true] at this
   simpa using this
 have hb:∀i,i<l.length→(0≤(l.getD i p0).proc∧(l.getD i p0).proc<8)∧0≤(l.getD i p0).page∧(l.getD i p0).page<64:=fun i hi=>by
  have :=(hr i hi).1
  unfold iV at this
  simp only [zF,zH,decide_eq_true_eq] at this
  omega
 have hstep:∀i,i+1<l.length→(l.map lR).getD i 0< (l.map lR).getD (i+1) 0:=fun i hi=>by
  have h1:=(hr (i+1) hi).2 (by omega)
  have h2:=hb i (by omega)
  have h3:=hb (i+1) hi
  rw [zO] at h1
  have e1:(l.map lR).getD i 0=lR (l.getD i p0):=by simp [zA,show i<l.length by omega]
  have e2:(l.map lR).getD (i+1) 0=lR (l.getD (i+1) p0):=by simp [zA,hi]
  rw [e1,e2]
  unfold mG at h1
  unfold lR
  by_cases a:(l.getD i p0).proc< (l.getD (i+1) p0).proc
  ·omega
  ·rw [decide_eq_false a,cond_false] at h1
   by_cases b:(l.getD i p0).proc=(l.getD (i+1) p0).proc
   ·rw [beq_iff_eq.2 b,cond_true,decide_eq_true_eq] at h1;omega
   ·rw [show((l.getD i p0).proc==(l.getD (i+1) p0).proc)=false from beq_eq_false_iff_ne.2 b] at h1;cases h1
 have hasc:=aKK (l:=l.map lR) (fun i hi=>hstep i (by simpa using hi))
 refine aSX lR 512 (hasc.imp fun h=>by omega) fun x hx=>?_
 obtain⟨i,hi,rfl⟩:=zM hx
 have h5:=hb i hi
 have e5:l.getD i p0=l[i]:=by simp [zA,hi]
 rw [e5] at h5
 have h6:lR l[i]=l[i].proc*64+l[i].page:=rfl
 generalize l[i]=y at *
 rw [h6]
 omega
theorem Ok.sm {c:Dc} (h:Ok c):SmD c:=⟨by have :=h.nf;omega,h.nr,h.ng,by rw [h.nl];exact h.ng,by rw [h.nk];exact h.ng⟩
theorem Ok.smZ {c:Dc} (h:Ok c):kG c.zo:=qE h.zone
theorem Ok.smL {c:Dc} (h:Ok c)(t:Nat):jD (c.ls.getD t l0):=by
 by_cases ht:t<c.ls.length
 ·exact((gQ _).1 (h.ls t ht)).small
 ·rw [zA,zL (zG ht)];exact⟨zP _,zP _,zP _⟩
theorem Ok.ptl {c:Dc} (h:Ok c):c.pt.length≤100000:=by have :=aRM h.pt;omega
theorem Ok.good {c:Dc} (h:Ok c) {n:Nat} {u:Us} (hn:n<c.fr.length)(hu:c.fr.getD n none=some u):tM c n u:=by
 have k:=h.use n u hn hu
 have f:=h.file _ k.file
 exact⟨hn,hu,k.file,by have :=k.page;omega,f.E,f.sup,by rw [k.val];omega,k.pg,by rw [h.nl];exact k.ten,k.rd,k.wr⟩
def gW(u:Us):Nat×Nat×Nat:=(u.file,u.page,u.ten)
theorem Ok.same {c d:Dc} (h:Ok c)(hl:d.fl.length=c.fl.length)(hE:∀f p,((d.fl.getD f aK).E p).1=((c.fl.getD f aK).E p).1)
 (hF:∀f,f<c.fl.length→OkF (d.fl.getD f aK)) (hr:d.fr.length=c.fr.length) (hk:∀n,(d.fr.getD n none).map gW=(c.fr.getD n none).map gW)
 (hU:∀n u,n<c.fr.length→d.fr.getD n none=some u→dU u.p∧u.holds≤255∧u.rd<4∧u.wr<4) (hz:d.zo=c.zo) (hg:d.gr=c.gr)
 (hls:d.ls.length=c.ls.length) (hchk:∀t,t<c.ls.length→iI (d.ls.getD t l0)=true) (hin:∀t x,inL (d.ls.getD t l0) x→inL (c.ls.getD t l0) x)
 (hck:d.ck=c.ck) (hpt:aB9 d.pt=true):Ok d:=by
 have back:∀n u,d.fr.getD n none=some u→∃v,c.fr.getD n none=some v∧gW v=gW u:=fun n u hu=>by
  have :=hk n
  rw [hu] at this
  cases hv:c.fr.getD n none with
  |none=>rw [hv] at this;cases this
  |some v=>rw [hv] at this;exact⟨v,rfl,by injection this with this;exact this.symm⟩
 have forth:∀n u,c.fr.getD n none=some u→∃v,d.fr.getD n none=some v∧gW v=gW u:=fun n u hu=>by
  have :=hk n
  rw [hu] at this
  cases hv:d.fr.getD n none with
  |none=>rw [hv] at this;cases this
  |some v=>rw [hv] at this;exact⟨v,rfl,by injection this with this⟩
 refine⟨by rw [hl];exact h.nf,by rw [hr];exact h.nr,by rw [hg];exact h.ng,by rw [hls,hg];exact h.nl,by rw [hck,hg];exact h.nk,fun f hf=>hF f (by rw [←hl];exact hf),fun n u hn hu=>?_,fun f p hf hp=>?_,by rw [hz];exact h.zone,fun z hz' x hx=>?_,by rw [hg];exact h.gr,fun t ht=>hchk t (by rw [←hls];exact ht),fun t x ht hx=>?_,by rw [hck];exact h.ck,hpt⟩
 ·obtain⟨v,hv,e⟩:=back n u hu
  have kv:=h.use n v (by rw [←hr];exact hn) hv
  obtain⟨g1,g2,g3,g4⟩:=hU n u (by rw [←hr];exact hn) hu
  simp only [gW,Prod.mk.injEq] at e
  obtain⟨e1,e2,e3⟩:=e
  exact⟨by rw [hl,←e1];exact kv.file,by rw [←e2];exact kv.page,g1,by rw [hg,←e3];exact kv.ten,g2,g3,g4,by rw [hE,←e1,←e2];exact kv.val⟩
 ·rw [hE] at hp
  obtain⟨n,u,k1,k2,k3,k4,k5⟩:=h.ent f p (by rw [←hl];exact hf) hp
  obtain⟨v,hv,e⟩:=forth n u k3
  simp only [gW,Prod.mk.injEq] at e
  obtain⟨e1,e2,e3⟩:=e
  exact⟨n,v,by rw [hr];exact k1,by rw [hE];exact k2,hv,by rw [e1];exact k4,by rw [e2];exact k5⟩
 ·obtain⟨n,k1,k2,k3⟩:=h.free z (by rw [←hz];exact hz') x hx
  refine⟨n,by rw [hr];exact k1,k2,?_⟩
  have :=hk n
  rw [k3] at this
  cases hv:d.fr.getD n none with
  |none=>rfl
  |some v=>rw [hv] at this;cases this
 ·obtain⟨n,u,k1,k2,k3,k4⟩:=h.mem t x (by rw [←hls];exact ht) (hin t x hx)
  obtain⟨v,hv,e⟩:=forth n u k3
  simp only [gW,Prod.mk.injEq] at e
  obtain⟨e1,e2,e3⟩:=e
  exact⟨n,v,by rw [hr];exact k1,k2,hv,by rw [e3];exact k4⟩
theorem aD {α:Type} (l:List α)(k:Nat)(x d:α)(h:k<l.length):(l.set k x).getD k d=x:=by simp [zA,h]
theorem getD_set_ne {α:Type} (l:List α) {k j:Nat} (x d:α)(h:j≠k):(l.set k x).getD j d=l.getD j d:=by simp [zA,Ne.symm h]
theorem fD {α:Type} (l:List α) {k:Nat} (x:α)(h:l.length≤k):l.set k x=l:=by
 induction l generalizing k with
 |nil=>rfl
 |cons a l ih=>
  cases k with
  |zero=>simp at h
  |succ k=>rw [List.set_cons_succ,ih (by simpa using h)]
theorem dK(f:Df)(E:cI):(dG f E).E=E:=rfl
theorem OkF.dG {f:Df} (h:OkF f) {E:cI} (h1:bK E)(h2:tJ E)(h3:∀p,-1000001≤(E p).1):OkF (dG f E):=⟨h1,h2,h3,h.size,h.blocks,h.ec,h.ee⟩
theorem sZ(E:cI)(u:Us)(p:Nat):(mE E u p).1=(E p).1:=by unfold mE;rw [iR,iR]
theorem Ok.put {c:Dc} (h:Ok c) {n:Nat} {u u':Us} (hn:n<c.fr.length)(hu:c.fr.getD n none=some u)(hk:gW u'=gW u)(hp:dU u'.p)(hh:u'.holds≤255)(hr:u'.rd<4)(hw:u'.wr<4):Ok (c.put n u'):=by
 have ku:=h.use n u hn hu
 simp only [gW,Prod.mk.injEq] at hk
 obtain⟨e1,e2,e3⟩:=hk
 have hff:u'.file<c.fl.length:=by rw [e1];exact ku.file
 have kf:=h.file _ hff
 have hm:=aZ7 (u:=u') kf.E kf.sup (by rw [e1,e2,ku.val];omega)
 refine h.same (by simp [Dc.put,Dc.mark,Dc.setU]) (fun f p=>?_) (fun f hf=>?_) (by simp [Dc.put,Dc.mark,Dc.setU]) (fun m=>?_) (fun m v hm hv=>?_) rfl rfl rfl h.ls (fun _ _ x=>x) rfl h.pt
 ·show(((c.fl.set u'.file (dG (c.fl.getD u'.file aK) (mE (c.fl.getD u'.file aK).E u'))).getD f aK).E p).1=_
  by_cases e:f=u'.file
  ·subst e;rw [aD _ _ _ _ hff,dK,sZ]
  ·rw [getD_set_ne _ _ _ e]
 ·show OkF ((c.fl.set u'.file (dG (c.fl.getD u'.file aK) (mE (c.fl.getD u'.file aK).E u'))).getD f aK)
  by_cases e:f=u'.file
  ·subst e;rw [aD _ _ _ _ hff]
   exact kf.dG hm.1 hm.2 (fun p=>by rw [sZ];exact kf.lo p)
  ·rw [getD_set_ne _ _ _ e];exact h.file f hf
 ·show((c.fr.set n (some u')).getD m none).map gW=_
  by_cases e:m=n
  ·subst e;rw [aD _ _ _ _ hn,hu];simp [gW,e1,e2,e3]
  ·rw [getD_set_ne _ _ _ e]
 ·have hv:(c.fr.set n (some u')).getD m none=some v:=hv
  by_cases e:m=n
  ·subst e;rw [aD _ _ _ _ hn] at hv;injection hv with hv;subst hv;exact⟨hp,hh,hr,hw⟩
  ·rw [getD_set_ne _ _ _ e] at hv
   have :=h.use m v hm hv
   exact⟨this.pg,this.holds,this.rd,this.wr⟩
theorem aON {l:Ls} (hl:iI l=true)(f:Int):iI (sG l f).1=true∧∀x,inL (sG l f).1 x→inL l x:=by
 have hP:=(gQ l).1 hl
 unfold sG
 rw [hl,zC,cond_false]
 cases h1:dM f with
 |false=>exact⟨hl,fun _ h=>h⟩
 |true=>
  rw [zC,cond_false]
  cases h2:sC l f with
  |false=>exact⟨hl,fun _ h=>h⟩
  |true=>
   rw [zC,cond_false]
   have hin:f∈l.A++l.I:=by simpa [sC] using h2
   have hk:=hP.known f hin
   cases h3:decide (f∈l.R) with
   |false=>
    rw [Bool.not_false,cond_true]
    have h3':f∉l.R:=by simpa using h3
    refine⟨(gQ _).2 ⟨hP.nodup,hP.known,?_,fun x hx=>?_⟩,fun _ h=>h⟩
    ·have hF:jC 1 65 l.R:=⟨hP.asc,fun x hx=>by have :=hP.known x (hP.sub x hx);omega⟩
     exact(hF.ins ⟨hk.1,by omega⟩ h3').asc
    ·rcases aD2.1 hx with rfl |hx
     ·exact hin
     ·exact hP.sub x hx
   |true=>
    rw [zC,cond_false]
    cases h4:decide (f∈l.I) with
    |false=>exact⟨hl,fun _ h=>h⟩
    |true=>
     rw [cond_true]
     have h4':f∈l.I:=by simpa using h4
     have hA:=hP.notA h4'
     refine⟨(gQ _).2 ⟨?_,fun x hx=>?_,aV2 hP.asc f,fun x hx=>?_⟩,fun x hx=>?_⟩
     ·show((f::wo l.A f)++wo l.I f).Nodup
      rw [rX hA]
      have hn:=List.nodup_append.1 hP.nodup
      rw [zK,List.nodup_cons]
      refine⟨fun hx=>?_,List.nodup_append.2 ⟨hn.1,aDV hn.2.1 f,fun a ha b hb=>hn.2.2 a ha b (fE.1 hb).1⟩⟩
      rcases List.mem_append.1 hx with hx |hx
      ·exact hA hx
      ·exact(fE.1 hx).2 rfl
     ·have hx:x∈(f::wo l.A f)++wo l.I f:=hx
      rw [zK,zN,zE,fE,fE] at hx
      rcases hx with rfl | ⟨hx,_⟩| ⟨hx,_⟩
      ·exact hk
      ·exact hP.known x (List.mem_append_left _ hx)
      ·exact hP.known x (List.mem_append_right _ hx)
     ·have hx:x∈wo l.R f:=hx
      rw [fE] at hx
      show x∈(f::wo l.A f)++wo l.I f
      rw [zK,zN,zE,fE,fE]
      rcases List.mem_append.1 (hP.sub x hx.1) with h |h
      ·exact .inr (.inl ⟨h,hx.2⟩)
      ·exact .inr (.inr ⟨h,hx.2⟩)
     ·unfold inL at hx⊢
      dsimp only at hx
      rw [zN,fE,fE] at hx
      rcases hx with (rfl |h)|h
      ·exact .inr h4'
      ·exact .inl h.1
      ·exact .inr h.1
theorem Ok.acc {c:Dc} (h:Ok c)(n t:Nat):Ok (c.acc n t):=by
 refine h.same rfl (fun _ _=>rfl) h.file rfl (fun _=>rfl) (fun m v hm hv=>?_) rfl rfl (by simp [Dc.acc]) (fun s hs=>?_) (fun s x hx=>?_) rfl h.pt
 ·have :=h.use m v hm hv
  exact⟨this.pg,this.holds,this.rd,this.wr⟩
 ·show iI ((c.ls.set t (sG (c.ls.getD t l0) ((n+1:Nat):Int)).1).getD s l0)=true
  by_cases e:s=t
  ·subst e;rw [aD _ _ _ _ hs];exact(aON (h.ls _ hs) _).1
  ·rw [getD_set_ne _ _ _ e];exact h.ls s hs
 ·have hx:inL ((c.ls.set t (sG (c.ls.getD t l0) ((n+1:Nat):Int)).1).getD s l0) x:=hx
  by_cases e:s=t
  ·subst e
   by_cases hs:s<c.ls.length
   ·rw [aD _ _ _ _ hs] at hx;exact(aON (h.ls _ hs) _).2 x hx
   ·rw [fD _ _ (zG hs)] at hx;exact hx
  ·rw [getD_set_ne _ _ _ e] at hx;exact hx
end Go.Proofs.YtmhapcbjjpadnaaGreat
set_option maxRecDepth 40000
namespace Go.Proofs.YtmhapcbjjpadnaaGreat
open Go Go.Sk Go.RowKit
theorem aF0 {a b:Pt} (h1:iV a=true)(h2:iV b=true):mG a b=true↔lR a<lR b:=by
 unfold iV at h1 h2
 simp only [zF,zH,decide_eq_true_eq] at h1 h2
 unfold mG lR
 by_cases e:a.proc<b.proc
 ·rw [decide_eq_true e,cond_true]
  exact⟨fun _=>by omega,fun _=>rfl⟩
 ·rw [decide_eq_false e,cond_false]
  by_cases e2:a.proc=b.proc
  ·rw [beq_iff_eq.2 e2,cond_true,decide_eq_true_eq];omega
  ·rw [show(a.proc==b.proc)=false from beq_eq_false_iff_ne.2 e2,cond_false]
   exact⟨(fun h=>by cases h),(fun h=>by omega)⟩
theorem aN3(l:List Pt)(i:Nat)(h:i<l.length):l.getD i p0=l[i]:=by simp [zA,h]
theorem aHT(l:List Pt):aB9 l=true↔(∀x∈l,iV x=true)∧l.Pairwise (fun a b=>lR a<lR b):=by
 constructor
 ·intro h
  have hr:∀i,i<l.length→iV (l.getD i p0)=true∧(0<i→mG (l.getD (i-1) p0) (l.getD i p0)=true):=fun i hi=>by
   have :=kC h hi
   unfold aC2 at this
   cases h1:iV (l.getD i p0) with
   |false=>rw [h1] at this;cases this
   |true=>
    rw [h1,zC,cond_false] at this
    refine⟨rfl,fun h0=>?_⟩
    rw [decide_eq_true (show 0< (i:Int) by omega),cond_true] at this
    simpa using this
  refine⟨fun x hx=>?_,?_⟩
  ·obtain⟨i,hi,rfl⟩:=zM hx
   rw [←aN3 l i hi];exact(hr i hi).1
  ·have hstep:∀i,i+1<l.length→(l.map lR).getD i 0< (l.map lR).getD (i+1) 0:=fun i hi=>by
    have h1:=(hr (i+1) hi).2 (by omega)
    rw [zO,aF0 (hr i (by omega)).1 (hr _ hi).1] at h1
    have e1:(l.map lR).getD i 0=lR (l.getD i p0):=by simp [zA,show i<l.length by omega]
    have e2:(l.map lR).getD (i+1) 0=lR (l.getD (i+1) p0):=by simp [zA,hi]
    rw [e1,e2];exact h1
   exact List.pairwise_map.1 (aKK (l:=l.map lR) (fun i hi=>hstep i (by simpa using hi)))
 ·intro⟨h1,h2⟩
  have :∀n,n≤l.length→bO (aC2 l) n=true:=by
   intro n
   induction n with
   |zero=>intro _;rfl
   |succ n ih=>
    intro hn
    have hb:aC2 l n=false:=by
     unfold aC2
     rw [aN3 l n (by omega),h1 _ (zI (by omega)),zC,cond_false]
     by_cases e:0<n
     ·rw [decide_eq_true (show 0< (n:Int) by omega),cond_true,aN3 l (n-1) (by omega),(aF0 (h1 _ (zI (by omega))) (h1 _ (zI (by omega)))).2 (List.pairwise_iff_getElem.1 h2 (n-1) n (by omega) (by omega) (by omega))]
      rfl
     ·rw [decide_eq_false (show ¬0< (n:Int) by omega),cond_false]
    simp only [bO,ih (by omega),hb];rfl
  exact this _ (Nat.le_refl _)
theorem aRU {l:List Pt} (h:aB9 l=true)(f:Int):aB9 (tX l f)=true:=by
 unfold tX
 rw [h,cond_true,aHT]
 have :=(aHT l).1 h
 exact⟨fun x hx=>this.1 x (List.mem_filter.1 hx).1,this.2.sublist List.filter_sublist⟩
theorem aMR {g:List Gr} (h:vC g=true) {t:Nat} {n:Int} (h0:0≤n)(hn:n≤64):vC (aKO g t n)=true:=by
 simp only [vC,zH] at h⊢
 rw [qF]
 refine⟨oX fun i hi=>?_,h.2⟩
 have hb:=kC h.1 hi
 unfold aAE aKO at *
 by_cases e:i=t
 ·subst e
  rw [aD _ _ _ _ hi]
  simp only [aVU,Bool.or_eq_false_iff,decide_eq_false_iff_not] at hb⊢
  omega
 ·rw [getD_set_ne _ _ _ e];exact hb
theorem aUT {g:List Gr} (h:vC g=true) {t:Nat} (ht:t<g.length):vC (iX g t).1=true∧(iX g t).1.length=g.length:=by
 have hb:=aG9 h ht
 unfold iX
 by_cases e:(g.getD t g0).chg<1
 ·rw [decide_eq_true e,cond_true];exact⟨h,rfl⟩
 ·rw [decide_eq_false e,cond_false]
  exact⟨aMR h (by omega) (by omega),qF _ _ _⟩
theorem aPJ {l:List Zn} (h:bH l=true)(f:Int):∀z∈(eB l l f).1,∀x∈z.free,x=f∨∃z∈l,x∈z.free:=by
 have key:=rL (base:=l) (f:=f) h
 generalize eB l l f=q at key
 intro z hz x hx
 cases key with
 |range _=>exact .inr ⟨z,hz,hx⟩
 |free _ _ _ _=>exact .inr ⟨z,hz,hx⟩
 |ok i hi hf hm=>
  rcases List.mem_or_eq_of_mem_set hz with hz |rfl
  ·exact .inr ⟨z,hz,hx⟩
  ·rcases aD2.1 hx with rfl |hx
   ·exact .inl rfl
   ·exact .inr ⟨_,zI hi,hx⟩
theorem aO9 {l:Ls} (hl:iI l=true) {f:Int} (hf:dM f=true):iI (sE l f).1=true∧∀x,inL (sE l f).1 x→inL l x∧x≠f:=by
 have hP:=(gQ l).1 hl
 unfold sE
 rw [hl,zC,cond_false,hf,zC,cond_false]
 cases h2:sC l f with
 |false=>
  rw [Bool.not_false,cond_true]
  refine⟨hl,fun x hx=>⟨hx,fun e=>?_⟩⟩
  subst e
  have :sC l x=true:=by unfold sC;rcases hx with h |h <;> simp [h]
  rw [h2] at this;cases this
 |true=>
  rw [zC,cond_false]
  have hn:=List.nodup_append.1 hP.nodup
  refine⟨(gQ _).2 ⟨List.nodup_append.2 ⟨aDV hn.1 f,aDV hn.2.1 f,fun a ha b hb=>hn.2.2 a (fE.1 ha).1 b (fE.1 hb).1⟩,fun x hx=>?_,aV2 hP.asc f,fun x hx=>?_⟩,fun x hx=>?_⟩
  ·have hx:x∈wo l.A f++wo l.I f:=hx
   rw [zE,fE,fE] at hx
   exact hP.known x (by rw [zE];rcases hx with h |h;exact .inl h.1;exact .inr h.1)
  ·have hx:x∈wo l.R f:=hx
   rw [fE] at hx
   show x∈wo l.A f++wo l.I f
   rw [zE,fE,fE]
   rcases List.mem_append.1 (hP.sub x hx.1) with h |h
   ·exact .inl ⟨h,hx.2⟩
   ·exact .inr ⟨h,hx.2⟩
  ·unfold inL at hx⊢
   dsimp only at hx
   rw [fE,fE] at hx
   rcases hx with h |h
   ·exact⟨.inl h.1,h.2⟩
   ·exact⟨.inr h.1,h.2⟩
theorem Ok.clk {c:Dc} (h:Ok c)(t:Nat) {x:Int} (h0:0≤x)(h1:x≤1000000):Ok ⟨c.fl,c.fr,c.zo,c.gr,c.ls,c.ck.set t x,c.pt⟩:=by
 refine⟨h.nf,h.nr,h.ng,h.nl,by rw [zJ];exact h.nk,h.file,fun n u hn hu=>?_,h.ent,h.zone,h.free,h.gr,h.ls,h.mem,fun s=>?_,h.pt⟩
 ·have k:=h.use n u hn hu
  exact⟨k.file,k.page,k.pg,k.ten,k.holds,k.rd,k.wr,k.val⟩
 ·by_cases e:s=t
  ·subst e
   by_cases hs:s<c.ck.length
   ·rw [aD _ _ _ _ hs];exact⟨h0,h1⟩
   ·rw [fD _ _ (zG hs)];exact h.ck s
  ·rw [getD_set_ne _ _ _ e];exact h.ck s
set_option maxHeartbeats 1000000 in
theorem Ok.gone {c:Dc} (h:Ok c) {n:Nat} {u:Us} (hn:n<c.fr.length)(hu:c.fr.getD n none=some u) {v:Int} (hv:v≤0)(hv2: -1000001≤v):Ok (c.gone n u v):=by
 have ku:=h.use n u hn hu
 have kf:=h.file _ ku.file
 have hx64:dM ((n+1:Nat):Int)=true:=(nN _).2 (by have :=h.nr;omega)
 have hzl:∀z∈(eB c.zo c.zo ((n+1:Nat):Int)).1,∀x∈z.free,x=((n+1:Nat):Int)∨∃z∈c.zo,x∈z.free:=aPJ h.zone _
 have hgr:=aUT h.gr ku.ten
 have hE:∀f p,(((c.gone n u v).fl.getD f aK).E p).1=if f=u.file∧p=u.page then v else((c.fl.getD f aK).E p).1:=fun f p=>by
  show(((c.fl.set u.file (dG (c.fl.getD u.file aK) (dA (c.fl.getD u.file aK).E u.page (v,0)))).getD f aK).E p).1=_
  by_cases e:f=u.file
  ·subst e
   rw [aD _ _ _ _ ku.file,dK]
   by_cases e2:p=u.page
   ·subst e2;rw [cR,if_pos ⟨rfl,rfl⟩]
   ·rw [cW e2,if_neg (fun h=>e2 h.2)]
  ·rw [getD_set_ne _ _ _ e,if_neg (fun h=>e h.1)]
 have hfr:∀m,(c.gone n u v).fr.getD m none=if m=n then none else c.fr.getD m none:=fun m=>by
  show(c.fr.set n none).getD m none=_
  by_cases e:m=n
  ·subst e;rw [aD _ _ _ _ hn,if_pos rfl]
  ·rw [getD_set_ne _ _ _ e,if_neg e]
 have hfrl:(c.gone n u v).fr.length=c.fr.length:=zJ ..
 have hfll:(c.gone n u v).fl.length=c.fl.length:=zJ ..
 have hlsl:(c.gone n u v).ls.length=c.ls.length:=zJ ..
 refine⟨by rw [hfll];exact h.nf,by rw [hfrl];exact h.nr,by show(iX c.gr u.ten).1.length≤4;rw [hgr.2];exact h.ng,by show(c.gone n u v).ls.length=(iX c.gr u.ten).1.length;rw [hlsl,hgr.2];exact h.nl,by show c.ck.length=(iX c.gr u.ten).1.length;rw [hgr.2];exact h.nk,fun f hf=>?_,fun m w hm hw=>?_,fun f p hf hp=>?_,aIH (eX.refl _) h.zone,fun z hz x hx=>?_,hgr.1,fun t ht=>?_,fun t x ht hx=>?_,h.ck,aRU h.pt _⟩
 ·show OkF ((c.fl.set u.file (dG (c.fl.getD u.file aK) (dA (c.fl.getD u.file aK).E u.page (v,0)))).getD f aK)
  by_cases e:f=u.file
  ·subst e
   rw [aD _ _ _ _ ku.file]
   refine kf.dG (kf.E.set (Nat.zero_lt_succ _) (fun _=>rfl)) (kf.sup.set (by have :=ku.page;omega) _) (fun p=>?_)
   by_cases e2:p=u.page
   ·subst e2;rw [cR];exact hv2
   ·rw [cW e2];exact kf.lo p
  ·rw [getD_set_ne _ _ _ e];exact h.file f (by rw [←hfll];exact hf)
 ·rw [hfr] at hw
  by_cases e:m=n
  ·rw [if_pos e] at hw;cases hw
  ·rw [if_neg e] at hw
   have km:=h.use m w (by rw [←hfrl];exact hm) hw
   first |refine aE ⟨by rw [hfll];exact km.file,km.page,km.pg,by show w.ten< (iX c.gr u.ten).1.length;rw [hgr.2];exact km.ten,km.holds,km.rd,km.wr⟩ ?_ |refine⟨by rw [hfll];exact km.file,km.page,km.pg,by show w.ten< (iX c.gr u.ten).1.length;rw [hgr.2];exact km.ten,km.holds,km.rd,km.wr,?_⟩
   rw [hE,if_neg]
   ·exact km.val
   ·intro⟨e1,e2⟩
    have :=km.val
    rw [e1,e2,ku.val] at this
    omega
 ·rw [hE] at hp⊢
  by_cases e:f=u.file∧p=u.page
  ·rw [if_pos e] at hp;omega
  ·rw [if_neg e] at hp⊢
   obtain⟨m,w,k1,k2,k3,k4,k5⟩:=h.ent f p (by rw [←hfll];exact hf) hp
   refine⟨m,w,by rw [hfrl];exact k1,k2,?_,k4,k5⟩
   rw [hfr,if_neg]
   ·exact k3
   ·intro e2
    subst e2
    rw [hu] at k3
    injection k3 with k3
    subst k3
    exact e ⟨k4.symm,k5.symm⟩
 ·rcases hzl z hz x hx with rfl | ⟨z',hz',hx'⟩
  ·exact⟨n,by rw [hfrl];exact hn,rfl,by rw [hfr,if_pos rfl]⟩
  ·obtain⟨m,k1,k2,k3⟩:=h.free z' hz' x hx'
   refine⟨m,by rw [hfrl];exact k1,k2,?_⟩
   rw [hfr]
   split
   ·rfl
   ·exact k3
 ·have ht:t<c.ls.length:=by rw [←hlsl];exact ht
  show iI ((c.ls.set u.ten (sE (c.ls.getD u.ten l0) ((n+1:Nat):Int)).1).getD t l0)=true
  by_cases e:t=u.ten
  ·subst e;rw [aD _ _ _ _ ht];exact(aO9 (h.ls _ ht) hx64).1
  ·rw [getD_set_ne _ _ _ e];exact h.ls t ht
 ·have ht:t<c.ls.length:=by rw [←hlsl];exact ht
  have hx:inL ((c.ls.set u.ten (sE (c.ls.getD u.ten l0) ((n+1:Nat):Int)).1).getD t l0) x:=hx
  by_cases e:t=u.ten
  ·subst e
   rw [aD _ _ _ _ ht] at hx
   obtain⟨g1,g2⟩:=(aO9 (h.ls _ ht) hx64).2 x hx
   obtain⟨m,w,k1,k2,k3,k4⟩:=h.mem _ x ht g1
   refine⟨m,w,by rw [hfrl];exact k1,k2,?_,k4⟩
   rw [hfr,if_neg]
   ·exact k3
   ·intro e2;subst e2;exact g2 k2
  ·rw [getD_set_ne _ _ _ e] at hx
   obtain⟨m,w,k1,k2,k3,k4⟩:=h.mem t x ht hx
   refine⟨m,w,by rw [hfrl];exact k1,k2,?_,k4⟩
   rw [hfr,if_neg]
   ·exact k3
   ·intro e2
    subst e2
    rw [hu] at k3
    injection k3 with k3
    subst k3
    exact e k4.symm
theorem Ok.evi {c:Dc} (h:Ok c) {n:Nat} {u:Us} (hn:n<c.fr.length)(hu:c.fr.getD n none=some u):Ok (c.evi n u):=by
 have hk:=h.ck u.ten
 exact(h.gone hn hu (by omega) (by omega)).clk _ (by omega) (by omega)
end Go.Proofs.YtmhapcbjjpadnaaGreat
set_option maxRecDepth 40000
namespace Go.Proofs.YtmhapcbjjpadnaaGreat
open Go Go.Sk Go.RowKit
theorem aM7(c:Dc)(n:Int):oA c n=false∨∃(m:Nat) (u:Us),n=((m+1:Nat):Int)∧m<c.fr.length∧c.fr.getD m none=some u:=by
 cases h:oA c n with
 |false=>exact .inl rfl
 |true=>
  refine .inr ?_
  unfold oA at h
  simp only [zF,zH,decide_eq_true_eq] at h
  obtain⟨⟨h1,h2⟩,h3⟩:=h
  obtain⟨u,hu⟩:=Option.isSome_iff_exists.1 h3
  exact⟨(n-1).toNat,u,by omega,by omega,hu⟩
theorem rW {c:Dc} {n:Nat} {u:Us} (h1:n<c.fr.length)(h2:c.fr.getD n none=some u):oA c ((n+1:Nat):Int)=true:=by
 unfold oA
 rw [decide_eq_true (show(1:Int)≤((n+1:Nat):Int) by omega),decide_eq_true (show((n+1:Nat):Int)≤(c.fr.length:Int) by omega),show(((n+1:Nat):Int)-1).toNat=n by omega,h2];rfl
def bER(u:Us)(h:Nat):Us:=⟨u.file,u.page,u.p,u.ten,h,u.rd,u.wr⟩
def aFE(u:Us)(r:Nat):Us:=⟨u.file,u.page,u.p,u.ten,u.holds,r,u.wr⟩
end Go.Proofs.YtmhapcbjjpadnaaGreat
set_option maxRecDepth 40000
namespace Go.Proofs.YtmhapcbjjpadnaaGreat
open Go Go.Sk Go.RowKit
attribute [simp] aB eV bV aG aO iF dS
theorem pH {c:Dc} {n:Nat} {u:Us} (h1:n<c.fr.length)(h2:c.fr.getD n none=some u):(bE c.fr).getD n []=u.c:=by rw [jM c.fr n h1,h2];rfl
theorem mV {c:Dc} {f:Nat} (h1:f<c.fl.length):(bG c.fl).getD f []=(c.fl.getD f aK).c:=iE c.fl f h1
theorem Ok.use96 {c:Dc} (h:Ok c) {n:Nat} {u:Us} (h1:n<c.fr.length)(h2:c.fr.getD n none=some u):aQ Tryz.prog 96 [] [.agg c.c,.int .i64 ((n+1:Nat):Int)] (.bool true) []:=by
 have :=aTR c ((n+1:Nat):Int) h.sm
 rwa [rW h1 h2] at this
end Go.Proofs.YtmhapcbjjpadnaaGreat
