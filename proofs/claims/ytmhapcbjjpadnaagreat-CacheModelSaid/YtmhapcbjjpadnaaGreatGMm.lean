/- Caches. -/
import Derived.Test.YtmhapcbjjpadnaaGreatGEm
import Derived.Test.YtmhapcbjjpadnaaGreatK8m
import Derived.Test.YtmhapcbjjpadnaaGreatGFm
import Derived.Test.YtmhapcbjjpadnaaGreatGGm
import Derived.Test.YtmhapcbjjpadnaaGreatGCm
import Derived.Test.YtmhapcbjjpadnaaGreatG6m
import Derived.Test.YtmhapcbjjpadnaaGreatG3m
import Derived.Test.YtmhapcbjjpadnaaGreatGIm
set_option linter.unusedSimpArgs false
set_option linter.unusedVariables false
open Bool renaming cond_false_right→zO,cond_true_left→zS,not_eq_false'→zU,not_eq_true'→zW
open Int renaming toNat_natCast→zM
open List renaming length_set→zA,getElem?_eq_none→zC,getD_eq_getElem?_getD→zD,replicate→zE,length_take→zF,append_nil→zG,getElem?_drop→zH,length_append→zI,take_succ_eq_append_getElem→zJ,ext_getElem?→zL,getElem?_eq_getElem→zN,length_filter_le→zP,getElem?_append→zQ,take→zR,getElem_of_mem→zT,getElem?_take→zV,getElem_mem→zX,drop→zY,length_drop→zZ
open Nat renaming zero_le→zK
set_option linter.constructorNameAsVariable false
set_option maxRecDepth 40000
namespace Go.Proofs.YtmhapcbjjpadnaaGreat
open Go Go.Sk Go.RowKit
theorem aUN(E:cI)(h a:Nat):∃k0 k1 k2 v m,sub E h a=[.lst k0 k1 k2,.int .i64 v,.int .i64 m]:=by
 cases h with
 |zero=>exact⟨0,true,[],_,_,rfl⟩
 |succ h=>
  rw [sub]
  cases fA E a (4^(h+1)) with
  |true=>exact⟨0,true,[],0,0,rfl⟩
  |false=>exact⟨3,false,_,0,_,rfl⟩
theorem aTE(v m:Int):aQ Tryz.prog 191 [] [.agg [bJ,.int .i64 v,.int .i64 m]] (.agg [bJ,.int .i64 v,.int .i64 m]) []:=by
 refine bM (ob0:= []) [] Tryz.func191 rfl rfl rfl rfl ?_
 refine Wx ?_
 refine Lp (fun _:Unit=>True) (fun _=> [(11,.int .i64 0)]) (fun _=> []) (fun _=>0) () trivial ?_ ?_
 ·exact Vr [_,_]
 intro _ _
 exact Wz
set_option maxHeartbeats 1000000 in
theorem bCJ(K:List (List V))(v m:Int)(hK:K.length≤4)(hc:∀i,i<K.length→∃k0 k1 k2 a b,K.getD i []=[.lst k0 k1 k2,.int .i64 a,.int .i64 b]∧aQ Tryz.prog 191 [] [.agg [.lst k0 k1 k2,.int .i64 a,.int .i64 b]] (.agg [.lst k0 k1 k2,.int .i64 a,.int .i64 b]) []):
 aQ Tryz.prog 191 [] [.agg [.lst 3 false K,.int .i64 v,.int .i64 m]] (.agg [.lst 3 false K,.int .i64 v,.int .i64 m]) []:=by
 refine bM (ob0:= []) [] Tryz.func191 rfl rfl rfl rfl ?_
 refine Wx ?_
 refine Lp (fun i:Nat=>i≤K.length) (fun i=> [(11,.int .i64 (i:Int))]) (fun i=> [(0,.box [.sl 2 0 i,.int .i64 v,.int .i64 m]),(2,.row 3 (K.take i))]) (fun i=>K.length-i) 0 (zK _) ?_ ?_
 ·exact Vr [_,_,none]
 intro i hi
 have hl:(K.take i).length=i:=by rw [zF];omega
 refine Wx ?_
 refine lP (fun b=>?_) (fun b=>?_)
 ·have b:i<K.length:=by omega
  obtain⟨k0,k1,k2,x,y,hg,k191⟩:=hc i b
  have hs:K.take (i+1)=K.take i++ [[.lst k0 k1 k2,.int .i64 x,.int .i64 y]]:=by rw [aB1 [] b,hg]
  refine Wx ?_
  refine Le (i+1) (hv:=?_)
  simp only [hs]
  exact Vr [_,_,_]
 obtain rfl:i=K.length:=by omega
 exact Wz
theorem aZU(E:cI):∀h a,aQ Tryz.prog 191 [] [.agg (sub E h a)] (.agg (sub E h a)) []
 |0,a=>aTE _ _
 |h+1,a=>by
  rw [sub]
  cases fA E a (4^(h+1)) with
  |true=>exact aTE 0 0
  |false=>
   refine bCJ _ _ _ (Nat.le_refl 4) fun i hi=>?_
   have hi:i<4:=hi
   have hg:=eD E h a i hi
   obtain⟨k0,k1,k2,v,m,e⟩:=aUN E h (a+i*4^h)
   have ih:=aZU E h (a+i*4^h)
   rw [e] at ih hg
   exact⟨k0,k1,k2,v,m,hg,ih⟩
end Go.Proofs.YtmhapcbjjpadnaaGreat
set_option maxRecDepth 40000
namespace Go.Proofs.YtmhapcbjjpadnaaGreat
open Go Go.Sk Go.RowKit
def vD(z:Zn):Zn:=⟨z.first,z.size,z.min,z.low,z.high,z.free,false⟩
def Dc.x(c:Dc):Dc:=⟨c.fl,c.fr,c.zo.map vD,c.gr,c.ls,c.ck,c.pt⟩
def Dc.b(c:Dc):List Sk.Obj:= [.box [.sl 1 0 c.fl.length,.sl 2 0 c.fr.length,.lst 6 false (aW c.zo),.lst 3 false (bP c.gr),.sl 3 0 c.ls.length,.sl 4 0 c.ck.length,.lst 5 false (bQ c.pt)],.row 15 (bG c.fl),.row 9 (bE c.fr),.row 3 (cN c.ls),.row 1 (aJ c.ck)]
theorem aJQ {α:Type} {l:List α} {i:Nat} {x d:α} (h:i<l.length)(e:x=l.getD i d):l.set i x=l:=by
 subst e
 apply zL
 intro j
 rw [List.getElem?_set]
 split
 ·rename_i e;subst e
  simp [zD,h]
 ·rfl
theorem kG.free_ {l:List Zn} (h:kG l)(j:Nat)(hj:j<l.length):(l.getD j fL).free.length*8≤140737488355328:=by
 have :=h.free (l.getD j fL) (by rw [aCN l j hj];exact zX hj)
 omega
set_option maxHeartbeats 8000000 in
theorem aE6(c:Dc)(h:Ok c):aQ Tryz.prog 82 [] [.agg c.c] (.ptr 0 0 0) c.x.b:=by
 have hsm:=h.sm
 have g1:=hsm.fl
 have g2:=hsm.fr
 have g3:=hsm.gr
 have g4:=hsm.ls
 have g5:=hsm.ck
 have g6:=(aEH h.zone).2
 have g7:=h.ptl
 have k185:=aZR (bG c.fl) false (by rw [bV];omega)
 have k186:=aZS (bE c.fr) false (by rw [eV];omega)
 have k187:=aTC (aW c.zo) false (by rw [aG];omega)
 have k188:=aNR (bP c.gr) false (by rw [aO];omega)
 have k189:=aZT (cN c.ls) false (by rw [iF];omega)
 have k107:=sM (aJ c.ck) false (by rw [aB];omega)
 have k190:=aTD (bQ c.pt) false (by rw [dS];omega)
 rw [bV] at k185
 rw [eV] at k186
 rw [aG] at k187
 rw [aO] at k188
 rw [iF] at k189
 rw [aB] at k107
 rw [dS] at k190
 unfold Dc.b Dc.x
 dsimp only
 obtain⟨R,hR⟩:∃R:Nat→List (List V),∀i,R i=bG c.fl:=⟨fun _=>bG c.fl,fun _=>rfl⟩
 obtain⟨S,hS⟩:∃S:Nat→List (List V),∀i,S i=cN c.ls:=⟨fun _=>cN c.ls,fun _=>rfl⟩
 refine bM (ob0:= []) [] Tryz.func82 rfl rfl rfl rfl ?_
 refine Wx ?_
 refine Lp (fun i:Nat=>i≤c.fl.length) (fun i=> [(33,.int .i64 (i:Int))]) (fun i=> [(1,.row 15 (R i))]) (fun i=>c.fl.length-i) 0 (zK _) ?_ ?_
 ·simp only [hR]
  exact Vr [some 0,some 2080,some 2128,some 2176,some 2224,some 2272,some 2320,some 2368,some 2400]
 intro i hi
 have hRl:(R i).length=c.fl.length:=by rw [hR,bV]
 refine Wx ?_
 refine lP (fun b=>?_) (fun b=>?_)
 ·have b:i<c.fl.length:=by omega
  have hg:=mV b
  obtain⟨k0,k1,k2,k3,hfc,hcan⟩:=Df.cells (h.file i b).E
  have k191:=aZU (c.fl.getD i aK).E (hgt (c.fl.getD i aK).E) 0
  unfold can at hcan
  rw [(List.cons.inj hcan).2] at k191
  have hst:R (i+1)=(R i).set i (aR 15 ((bG c.fl).getD i []) 3 [.lst k0 k1 k2,.int .i64 k3,.int .i64 (lS (c.fl.getD i aK).E 0 (4^hgt (c.fl.getD i aK).E):Nat)]):=by
   rw [hR,hR]
   refine(aJQ (d:= []) (by rw [bV];exact b) ?_).symm
   rw [hg,hfc];rfl
  rw [←hR i] at hg
  rw [←hR i,hg] at hst
  rw [hfc] at hg hst
  refine Wx ?_
  refine Le (i+1) (hv:=?_)
  simp only [hst]
  exact Vr [some 0,some 1,some 2,some 3,some 4,some 5,some 6,some 7,some 8]
 clear b hRl
 refine Wx ?_
 refine Lp (fun i:Nat=>i≤c.zo.length) (fun i=> [(54,.int .i64 (i:Int))]) (fun i=> [(3,.row 6 (aW (sD vD c.zo i)))]) (fun i=>c.zo.length-i) 0 (zK _) ?_ ?_
 ·rw [aPO]
  exact Vr [some 0,some 1,some 2,some 3,some 4,some 5,some 6,some 7,some 8]
 intro j hj
 have hZl:=aSS vD c.zo j
 refine Wx ?_
 refine lP (fun b=>?_) (fun b=>?_)
 ·have b:j<c.zo.length:=by omega
  have hg:=iG (sD vD c.zo j) j (by rw [hZl];exact b)
  have e:(sD vD c.zo j)[j]'(by rw [hZl];exact b)=c.zo.getD j fL:=by
   rw [←aSR vD c.zo j fL b]
   simp [zD,b]
  rw [e] at hg
  have hf:=(qE h.zone).free_ j b
  have hst:=aPN vD c.zo j fL b
  have hzc:(vD (c.zo.getD j fL)).c=aR 6 (c.zo.getD j fL).c 5 [.lst 1 false (aJ (c.zo.getD j fL).free)]:=rfl
  have hrs:aW (sD vD c.zo (j+1))=(aW (sD vD c.zo j)).set j (aR 6 (c.zo.getD j fL).c 5 [.lst 1 false (aJ (c.zo.getD j fL).free)]):=by
   rw [hst,←hzc];unfold aW;rw [List.map_set]
  generalize c.zo.getD j fL=z at *
  obtain⟨z1,z2,z3,z4,z5,z6,z7⟩:=z
  have k107f:=aD6 (aJ z6) z7 (by rw [aB];exact hf)
  refine Wx ?_
  refine Le (j+1) (hv:=?_)
  simp only [hrs]
  exact Vr [some 0,some 1,some 2,some 3,some 4,some 5,some 6,some 7,some 8]
 obtain rfl:j=c.zo.length:=by omega
 rw [aSQ]
 clear b hZl
 refine Wx ?_
 refine Lp (fun i:Nat=>i≤c.ls.length) (fun i=> [(73,.int .i64 (i:Int))]) (fun i=> [(5,.row 3 (S i))]) (fun i=>c.ls.length-i) 0 (zK _) ?_ ?_
 ·simp only [hS]
  exact Vr [some 0,some 1,some 2,some 3,some 4,some 5,some 6,some 7,some 8]
 intro k hk
 have hSl:(S k).length=c.ls.length:=by rw [hS,iF]
 refine Wx ?_
 refine lP (fun b=>?_) (fun b=>?_)
 ·have b:k<c.ls.length:=by omega
  have hg:=rT c.ls k b
  have hl:=h.smL k
  have hst:S (k+1)=(S k).set k (aR 3 ((cN c.ls).getD k []) 0 (c.ls.getD k l0).c):=by
   rw [hS,hS]
   refine(aJQ (d:= []) (by rw [iF];exact b) ?_).symm
   rw [hg];rfl
  have hg2:(S k).getD k []=(c.ls.getD k l0).c:=by rw [hS];exact hg
  rw [hg] at hst
  generalize c.ls.getD k l0=l at *
  obtain⟨A,I,Rf⟩:=l
  have k1:=aD6 (aJ A) false (by rw [aB];have :=hl.a;dsimp only at this;omega)
  have k2:=aD6 (aJ I) false (by rw [aB];have :=hl.i;dsimp only at this;omega)
  have k3:=aD6 (aJ Rf) false (by rw [aB];have :=hl.r;dsimp only at this;omega)
  refine Wx ?_
  refine Le (k+1) (hv:=?_)
  simp only [hst]
  exact Vr [some 0,some 1,some 2,some 3,some 4,some 5,some 6,some 7,some 8]
 refine Wx ?_
 rw [←hR i,←hS k]
 refine sQ.mk ?_
 conv=>whnf
 refine⟨[some 9,some 1,some 2,some 5,some 6],?_,rfl,?_,rfl,?_⟩
 all_goals exact Cz
end Go.Proofs.YtmhapcbjjpadnaaGreat
set_option maxRecDepth 40000
namespace Go.Proofs.YtmhapcbjjpadnaaGreat
open Go Go.Sk Go.RowKit
theorem sN(c:Dc)(m:Nat)(hm:m<c.fr.length)(hr:c.fr.length≤64):aQ Tryz.prog 147 c.b [.ptr 0 0 0,.int .i64 ((m+1:Nat):Int)] (.ptr 2 m 0) c.b:=by
 refine bM (ob0:=c.b) [] Tryz.func147 rfl rfl rfl rfl ?_
 exact Wo5
set_option maxHeartbeats 4000000 in
theorem aT4(c:Dc)(m:Nat)(u:Us)(hm:m<c.fr.length)(hu:c.fr.getD m none=some u)(hf:u.file<c.fl.length)(hr:c.fr.length≤64):aQ Tryz.prog 156 c.b [.ptr 0 0 0,.int .i64 ((m+1:Nat):Int)] (.ptr 1 u.file 0) c.b:=by
 have k147:=sN c m hm hr
 have hgu:=pH hm hu
 refine bM (ob0:=c.b) [] Tryz.func156 rfl rfl rfl rfl ?_
 exact Wo5
end Go.Proofs.YtmhapcbjjpadnaaGreat
set_option maxRecDepth 40000
namespace Go.Proofs.YtmhapcbjjpadnaaGreat
open Go Go.Sk Go.RowKit
def Dc.setF(c:Dc)(f:Nat)(x:Df):Dc:=⟨c.fl.set f x,c.fr,c.zo,c.gr,c.ls,c.ck,c.pt⟩
theorem bDA(c:Dc)(f:Nat)(x:Df):(c.setF f x).b=[.box [.sl 1 0 c.fl.length,.sl 2 0 c.fr.length,.lst 6 false (aW c.zo),.lst 3 false (bP c.gr),.sl 3 0 c.ls.length,.sl 4 0 c.ck.length,.lst 5 false (bQ c.pt)],.row 15 (bG (c.fl.set f x)),.row 9 (bE c.fr),.row 3 (cN c.ls),.row 1 (aJ c.ck)]:=by
 unfold Dc.b Dc.setF
 dsimp only
 rw [zA]
def Dc.mk1(c:Dc)(u:Us)(k:Nat)(on:Bool):Dc:=c.setF u.file (dG (c.fl.getD u.file aK) (iQ (c.fl.getD u.file aK).E u.page on k))
theorem call354:eP Tryz.prog 354:=⟨_,Tryz.func354,rfl,rfl⟩
theorem call353:eP Tryz.prog 353:=⟨_,Tryz.func353,rfl,rfl⟩
set_option maxHeartbeats 8000000 in
theorem bAI(c:Dc)(m:Nat)(u:Us)(h:tM c m u)(hr:c.fr.length≤64)(k:Nat)(hk:k=1∨k=2∨k=4)(on:Bool):
 aQ Tryz.prog 326 c.b [.ptr 0 0 0,.int .i64 ((m+1:Nat):Int),.int .i64 (k:Int),.bool on] (.tup []) (c.mk1 u k on).b:=by
 have h1:=h.at_
 have h2:=h.get
 have hf:=h.file
 have k147:=sN c m h1 hr
 have k156:=aT4 c m u h1 h2 hf hr
 have hgu:=pH h1 h2
 have hgf:=mV hf
 have hE':bK (iQ (c.fl.getD u.file aK).E u.page on k):=h.E.mrk (by omega) h.val
 have hput:=rS c.fl u.file _ hf h.E hE'
 rw [iE c.fl u.file hf] at hput
 have k354:=bGF h.E h.sup u.page h.page k hk h.val
 have k353:=bGE h.E h.sup u.page h.page k hk h.val
 obtain⟨k0,k1,k2,k3,hfc,hcan⟩:=Df.cells h.E
 obtain⟨q0,q1,q2,q3,hcan'⟩:=bC hE'
 rw [hfc] at hgf hput
 rw [hcan'] at hput
 unfold Dc.mk1
 rw [bDA,←hput]
 cases on with
 |true=>
  rw [hcan,hcan'] at k354
  clear k353
  refine bM (ob0:=c.b) [] Tryz.func326 rfl rfl rfl rfl ?_
  refine Wy ?_
  refine And.intro call354 ?_
  exact Wo5
 |false=>
  rw [hcan,hcan'] at k353
  clear k354
  refine bM (ob0:=c.b) [] Tryz.func326 rfl rfl rfl rfl ?_
  refine Wy ?_
  refine And.intro call353 ?_
  exact Wo5
end Go.Proofs.YtmhapcbjjpadnaaGreat
set_option maxRecDepth 40000
namespace Go.Proofs.YtmhapcbjjpadnaaGreat
open Go Go.Sk Go.RowKit
theorem tM.mk1 {c:Dc} {m:Nat} {u:Us} (h:tM c m u) {k:Nat} (hk:k<8) {on:Bool} :tM (c.mk1 u k on) m u:=by
 have hg:(c.mk1 u k on).fl.getD u.file aK=dG (c.fl.getD u.file aK) (iQ (c.fl.getD u.file aK).E u.page on k):=aD _ _ _ _ h.file
 refine⟨h.at_,h.get,by show u.file< (c.fl.set _ _).length;rw [zA];exact h.file,h.page,?_,?_,?_,h.pg,h.ten,h.rd,h.wr⟩
 ·rw [hg,dK];exact h.E.mrk hk h.val
 ·rw [hg,dK];exact h.sup.mrk
 ·rw [hg,dK,iR];exact h.val
theorem aX5 {c:Dc} {u:Us} (hf:u.file<c.fl.length):(c.mk1 u 1 (u.p.d != 0)).mk1 u 2 (u.wr != 0)=c.mark u:=by
 have hg:(c.mk1 u 1 (u.p.d != 0)).fl.getD u.file aK=dG (c.fl.getD u.file aK) (iQ (c.fl.getD u.file aK).E u.page (u.p.d != 0) 1):=aD _ _ _ _ hf
 unfold Dc.mark Dc.mk1 at *
 rw [hg]
 unfold Dc.setF mE
 dsimp only
 rw [List.set_set];rfl
set_option maxHeartbeats 4000000 in
theorem bA6(c:Dc)(m:Nat)(u:Us)(h:tM c m u)(hr:c.fr.length≤64):
 aQ Tryz.prog 267 c.b [.ptr 0 0 0,.int .i64 ((m+1:Nat):Int)] (.tup []) (c.mark u).b:=by
 have h1:=h.at_
 have k147:=sN c m h.at_ hr
 have hgu:=pH h.at_ h.get
 have k1:=bAI c m u h hr 1 (.inl rfl) (u.p.d != 0)
 have h':=h.mk1 (k:=1) (by decide) (on:=(u.p.d != 0))
 have k147':=sN (c.mk1 u 1 (u.p.d != 0)) m h.at_ hr
 have hgu':=pH h'.at_ h'.get
 have k2:=bAI (c.mk1 u 1 (u.p.d != 0)) m u h' hr 2 (.inr (.inl rfl)) (u.wr != 0)
 rw [aX5 h.file] at k2
 have e1:(((u.p.d:Nat):Int) != 0)=(u.p.d != 0):=by
  cases hd:(u.p.d != 0) with
  |true=>rw [bne_iff_ne] at hd⊢;omega
  |false=>rw [bne_eq_false_iff_eq] at hd⊢;omega
 have e2:(((u.wr:Nat):Int) != 0)=(u.wr != 0):=by
  cases hd:(u.wr != 0) with
  |true=>rw [bne_iff_ne] at hd⊢;omega
  |false=>rw [bne_eq_false_iff_eq] at hd⊢;omega
 have h1':=h'.at_
 have hr':(c.mk1 u 1 (u.p.d != 0)).fr.length≤64:=hr
 rw [←e1] at k1 k2 k147' hgu' h1' hr'
 rw [←e2] at k2
 clear h'
 generalize c.mk1 u 1 (((u.p.d:Nat):Int) != 0)=d at *
 refine bM (ob0:=c.b) [] Tryz.func267 rfl rfl rfl rfl ?_
 exact Wo5
set_option maxHeartbeats 4000000 in
theorem bGR(c:Dc)(m:Nat)(u:Us)(h1:m<c.fr.length)(h2:c.fr.getD m none=some u)(hr:c.fr.length≤64)(ht:u.ten<c.ls.length)(hl:jD (c.ls.getD u.ten l0)):
 aQ Tryz.prog 97 c.b [.ptr 0 0 0,.int .i64 ((m+1:Nat):Int)] (.tup []) (c.acc m u.ten).b:=by
 have k147:=sN c m h1 hr
 have hgu:=pH h1 h2
 have hgl:=rT c.ls u.ten ht
 have k201:=aZV (c.ls.getD u.ten l0) ((m+1:Nat):Int) hl
 have hset:∀x:Ls,(cN c.ls).set u.ten (aR 3 (c.ls.getD u.ten l0).c 0 x.c)=cN (c.ls.set u.ten x):=fun x=>aA3 c.ls u.ten x
 have hb:(c.acc m u.ten).b=[.box [.sl 1 0 c.fl.length,.sl 2 0 c.fr.length,.lst 6 false (aW c.zo),.lst 3 false (bP c.gr),.sl 3 0 c.ls.length,.sl 4 0 c.ck.length,.lst 5 false (bQ c.pt)],.row 15 (bG c.fl),.row 9 (bE c.fr),.row 3 (cN (c.ls.set u.ten (sG (c.ls.getD u.ten l0) ((m+1:Nat):Int)).1)),.row 1 (aJ c.ck)]:=by
  unfold Dc.b Dc.acc
  dsimp only
  rw [zA]
 rw [hb,←hset]
 generalize(sG (c.ls.getD u.ten l0) ((m+1:Nat):Int)).2=er at *
 generalize(sG (c.ls.getD u.ten l0) ((m+1:Nat):Int)).1=l2 at *
 generalize c.ls.getD u.ten l0=l at *
 refine bM (ob0:=c.b) [] Tryz.func97 rfl rfl rfl rfl ?_
 exact Wo5
end Go.Proofs.YtmhapcbjjpadnaaGreat
set_option maxRecDepth 40000
namespace Go.Proofs.YtmhapcbjjpadnaaGreat
open Go Go.Sk Go.RowKit
def aKV(a b:Int):Int:=bif decide (a<b) then -1 else bif decide (b<a) then 1 else 0
theorem aZD(a b:Int):aQ Tryz.prog 104 [] [.int .i64 a,.int .i64 b] (.int .i64 (aKV a b)) []:=by
 have k1:=aNS a
 have k2:=aNS b
 unfold aKV
 refine bM (ob0:= []) [] Tryz.func104 rfl rfl rfl rfl ?_
 refine Wy ?_
 refine lP (fun h=>?_) (fun h=>?_)
 ·rw [decide_eq_true h,cond_true]
  exact Wz
 ·rw [decide_eq_false h,cond_false]
  refine Wy ?_
  refine lP (fun h2=>?_) (fun h2=>?_)
  ·rw [decide_eq_true h2,cond_true]
   exact Wz
  ·rw [decide_eq_false h2,cond_false]
   exact Wz
def orI(x y:Int):Int:=bif x==0 then y else x
theorem bG5(x y:Int):aQ Tryz.prog 328 [.row 1 (aJ [x,y])] [.sl 0 0 2] (.int .i64 (orI x y)) [.row 1 (aJ [x,y])]:=by
 have h0:(aJ [x,y]).getD 0 []=[.int .i64 x]:=rfl
 have h1:(aJ [x,y]).getD 1 []=[.int .i64 y]:=rfl
 have hl:(aJ [x,y]).length=2:=rfl
 unfold orI
 generalize aJ [x,y]=R at *
 refine bM (ob0:= [.row 1 R]) [] Tryz.func328 rfl rfl rfl rfl ?_
 refine Wy ?_
 refine Lp (fun i:Nat=>i≤2∧(1≤i→x=0)∧(2≤i→y=0)) (fun i=> [(8,.int .i64 (i:Int))]) (fun i=> []) (fun i=>2-i) 0 ⟨by omega,by omega,by omega⟩ ?_ ?_
 ·exact Vr [_]
 rintro i ⟨hi,hx,hy⟩
 have h3:i=0∨i=1∨i=2:=by omega
 rcases h3 with rfl |rfl |rfl
 ·clear h1
  refine Wy ?_
  refine bBC (fun h=>?_) (fun h=>?_)
  ·rw [beq_eq_false_iff_ne.2 h]
   exact Wo
  ·refine Wy ?_
   refine Le 1 (hI:=⟨by omega,fun _=>h,by omega⟩) (hv:=?_)
   exact Vr [_]
 ·clear h0
  rw [beq_iff_eq.2 (hx (by omega)),cond_true]
  refine Wy ?_
  refine bBC (fun h=>?_) (fun h=>?_)
  ·exact Wo
  ·refine Wy ?_
   refine Le 2 (hI:=⟨by omega,fun _=>hx (by omega),fun _=>h⟩) (hv:=?_)
   exact Vr [_]
 ·rw [beq_iff_eq.2 (hx (by omega)),cond_true,hy (by omega)]
  exact Wo
def aW6(a b:Pt):Int:=orI (aKV a.proc b.proc) (aKV a.page b.page)
theorem bFS(a b:Pt):aQ Tryz.prog 271 [] [.agg a.c,.agg b.c] (.int .i64 (aW6 a b)) []:=by
 have k1:=aZD a.proc b.proc
 have k2:=aZD a.page b.page
 have k3:=bG5 (aKV a.proc b.proc) (aKV a.page b.page)
 refine bM (ob0:= []) [] Tryz.func271 rfl rfl rfl rfl ?_
 exact Wz
theorem bFR(a:Pt):aQ Tryz.prog 269 [] [.agg a.c] (.bool (iV a)) []:=by
 unfold iV
 refine bM (ob0:= []) [] Tryz.func269 rfl rfl rfl rfl ?_
 exact Wz
theorem aP9(a b:Pt):mG a b=decide (aW6 a b<0):=by
 unfold mG aW6 orI aKV
 by_cases h1:a.proc<b.proc
 ·rw [decide_eq_true h1];rfl
 ·rw [decide_eq_false h1,cond_false,cond_false]
  by_cases h2:b.proc<a.proc
  ·rw [decide_eq_true h2,show(a.proc==b.proc)=false from beq_eq_false_iff_ne.2 (by omega)];rfl
  ·rw [decide_eq_false h2,show(a.proc==b.proc)=true from beq_iff_eq.2 (by omega)]
   show decide (a.page<b.page)=decide ((bif decide (a.page<b.page) then(-1:Int) else bif decide (b.page<a.page) then 1 else 0)<0)
   by_cases h3:a.page<b.page
   ·rw [decide_eq_true h3];rfl
   ·rw [decide_eq_false h3,cond_false]
    cases decide (b.page<a.page)<;> rfl
set_option maxHeartbeats 2000000 in
theorem bFJ(l:List Pt)(hl:l.length≤100000):aQ Tryz.prog 232 [] [.lst 5 false (bQ l)] (.bool (aB9 l)) []:=by
 refine bM (ob0:= []) [] Tryz.func232 rfl rfl rfl rfl ?_
 refine Wy ?_
 refine Lp (fun i:Nat=>i≤l.length∧bO (aC2 l) i=true) (fun i=> [(7,.int .i64 (i:Int))]) (fun i=> []) (fun i=>l.length-i) 0 ⟨zK _,rfl⟩ ?_ ?_
 ·exact Vr []
 rintro i ⟨hi,hn⟩
 refine Wy ?_
 refine lP (fun b=>?_) (fun b=>?_)
 ·have b:i<l.length:=by omega
  have hg:=aA4 l i b
  have hg2:=aA4 l (i-1) (by omega)
  have k269:=bFR (l.getD i p0)
  have k271:=bFS (l.getD (i-1) p0) (l.getD i p0)
  have hb:aC2 l i=bif !iV (l.getD i p0) then true else bif decide (0< (i:Int)) then !mG (l.getD (i-1) p0) (l.getD i p0) else false:=rfl
  have hbad:aC2 l i=true→aB9 l=false:=fun h=>iC b h
  have hgood:aC2 l i=false→bO (aC2 l) (i+1)=true:=fun h=>by rw [bO,hn,h];rfl
  rw [aP9] at hb
  generalize l.getD i p0=x at *
  generalize l.getD (i-1) p0=y at *
  generalize aW6 y x=w at *
  cases hr:iV x with
  |false=>
   rw [hr] at k269 hb
   rw [hbad hb]
   by_cases h0:i=0
   ·subst h0
    refine Wx2 hg hg2 ?_
    exact Lz
   ·refine Wx2 hg hg2 ?_
    exact Lz
  |true=>
   rw [hr,Bool.not_true,cond_false] at hb
   rw [hr] at k269
   by_cases h0:i=0
   ·subst h0
    rw [decide_eq_false (show ¬(0:Int)< ((0:Nat):Int) by omega),cond_false] at hb
    refine Wx2 hg hg2 ?_
    refine Le 1 (hI:=⟨by omega,hgood hb⟩) (hv:=?_)
    exact Vr []
   ·rw [decide_eq_true (show(0:Int)< (i:Int) by omega),cond_true] at hb
    by_cases hw:w<0
    ·rw [decide_eq_true hw,Bool.not_true] at hb
     refine Wx2 hg hg2 ?_
     refine Le (i+1) (hI:=⟨by omega,hgood hb⟩) (hv:=?_)
     exact Vr []
    ·rw [decide_eq_false hw,Bool.not_false] at hb
     rw [hbad hb]
     refine Wx2 hg hg2 ?_
     exact Lz
 obtain rfl:i=l.length:=by omega
 have hn:aB9 l=true:=hn
 rw [hn]
 exact Wz
end Go.Proofs.YtmhapcbjjpadnaaGreat
set_option maxRecDepth 40000
namespace Go.Proofs.YtmhapcbjjpadnaaGreat
open Go Go.Sk Go.RowKit
theorem aZ4(l:List Pt)(i:Nat)(h:i<l.length):(bQ l).getD i []=(l[i]'h).c:=by rw [aA4 l i h,aN3 l i h]
theorem bGH(l:List Pt)(t:Bool)(g:FuncId)(caps:List V)(p:Pt→Bool)(hg:eP Tryz.prog g)(hcap:caps.all bW=true)(hp:∀x∈l,aQ Tryz.prog g [] (.agg x.c::caps) (.bool (p x)) [])(hl:(l.length:Int)<2^62):
 aQ Tryz.prog 360 [] [.lst 5 t (bQ l),.fn g caps] (.int .i64 (dW p l)) []:=by
 refine aF (ob0:= []) [] Tryz.func360 rfl rfl rfl rfl ?_
 generalize hk:dW p l=q
 refine Wk ?_
 rw [dS]
 refine⟨Nat,fun i=>i≤l.length∧∀j (hj:j<i) (h:j<l.length),p l[j]=false,fun i=>⟨[(0,⟨[],true,.lst 5 t (bQ l)⟩),(1,⟨[],true,.fn g caps⟩),(4,⟨[],true,.int .i64 0⟩),(7,⟨[],true,.int .i64 (l.length:Int)⟩),(8,⟨[],true,.int .i64 (i:Int)⟩)],[],0⟩,fun i=>l.length-i,⟨0,⟨by omega,fun j hj=>by omega⟩,?_⟩,fun i hI=>?_⟩
 ·refine cO [] rfl rfl ?_ rfl ?_ rfl ?_
  repeat' (first |exact trivial |rfl |exact .inl rfl |exact .inr rfl |exact id |exact(fun h=>Bool.noConfusion h)|refine And.intro ?_ ?_)
  exact jE hcap
 obtain⟨hI1,hI2⟩:=hI
 refine Wk ?_
 refine aI (fun h2=>?_) (fun h2=>?_)<;> try simp only [zS,zO,zW,zU,Bool.not_not] at h2
 ·have h2:i<l.length:=by simp at h2;omega
  refine Wk ?_
  first |refine aE (⟨rfl,by omega,by rw [dS];omega⟩) ?_ |refine aM (fun _=>⟨rfl,by omega,by rw [dS];omega⟩) ?_ |refine⟨fun _=>⟨rfl,by omega,by rw [dS];omega⟩,?_⟩
  rw [zM,aZ4 l i h2]
  refine Wk ?_
  refine⟨hg,.inl (aM9 hcap rfl (hp _ (zX h2)) rfl ?_)⟩
  refine Wk ?_
  refine aI (fun h3=>?_) (fun h3=>?_)<;> try simp only [zS,zO,zW,zU,Bool.not_not] at h3
  ·have :q=i:=by rw [←hk];exact uE _ l i h2 (fun j hj=>hI2 j hj (by omega)) h3
   subst this
   refine Wk ?_
   try subst hk
   exact Lf
  refine Wk ?_
  rw [aY (n:=(i:Int)+1) (by omega) (by omega),show((i:Int)+1)=((i+1:Nat):Int) by omega]
  refine⟨i+1,⟨by omega,fun j hj h=>?_⟩,?_,by show l.length- (i+1)<l.length-i;omega⟩
  ·by_cases e:j=i
   ·subst e;exact h3
   ·exact hI2 j (by omega) h
  refine cO [] rfl rfl ?_ rfl ?_ rfl ?_
  repeat' (first |exact trivial |rfl |exact .inl rfl |exact .inr rfl |exact id |exact(fun h=>Bool.noConfusion h)|refine And.intro ?_ ?_)
  exact jE hcap
 have h2:i=l.length:=by simp at h2;omega
 have :q= -1:=by rw [←hk];exact nL _ l fun y hy=>by obtain⟨j,hj,rfl⟩:=zT hy;exact hI2 j (by omega) hj
 subst this
 refine Wk ?_
 try subst hk
 exact Lf
theorem bAH(x:Pt)(f:Int):aQ Tryz.prog 317 [] [.agg x.c,.rp 1 [.int .i64 f] 0] (.bool (x.frame==f)) []:=by
 refine aF (ob0:= []) [] Tryz.func317 rfl rfl rfl rfl ?_
 refine Wk ?_
 try subst hk
 exact Lf
theorem call317:eP Tryz.prog 317:=⟨_,Tryz.func317,rfl,rfl⟩
def sK(f:Int)(l:List Pt):List Pt:=l.filter (aBC f)
structure aB6(l:List Pt)(x:Int)(j:Nat)(R:List Pt):Prop where
 le:j≤l.length
 len:R.length=l.length
 kept:R.take (sK x (l.take j)).length=sK x (l.take j)
 rest:R.drop j=l.drop j
theorem aCH {R l:List Pt} {j:Nat} (h:R.drop j=l.drop j):R.drop (j+1)=l.drop (j+1):=by
 rw [←List.drop_drop,←List.drop_drop,h]
theorem tZ {l:List Pt} {j:Nat} {x:Int} (hj:j<l.length):sK x (l.take (j+1))=sK x (l.take j)++(bif aBC x l[j] then [l[j]] else []):=by
 unfold sK
 rw [zJ hj,List.filter_append]
 cases h:aBC x l[j] with
 |true=>rw [List.filter_cons_of_pos h];rfl
 |false=>rw [List.filter_cons_of_neg (by rw [h];decide)];rfl
theorem aMZ(l:List Pt)(x:Int)(j:Nat):(sK x (l.take j)).length≤j:=by
 have :=zP (aBC x) (l.take j)
 have :=List.length_take_le j l
 unfold sK;omega
theorem aB6.getj {l:List Pt} {x:Int} {j:Nat} {R:List Pt} (h:aB6 l x j R)(hj:j<l.length):R[j]'(by rw [h.len];exact hj)=l[j]:=by
 have h1:(R.drop j)[0]? =(l.drop j)[0]? :=by rw [h.rest]
 rw [zH,zH,Nat.add_zero,zN hj,zN (by rw [h.len];exact hj)] at h1
 exact Option.some.inj h1
theorem aB6.skip {l:List Pt} {x:Int} {j:Nat} {R:List Pt} (h:aB6 l x j R)(hj:j<l.length)(hx:aBC x l[j]=false):aB6 l x (j+1) R:=by
 have e:=tZ (x:=x) hj
 rw [hx,cond_false,zG] at e
 exact⟨by omega,h.len,by rw [e];exact h.kept,aCH h.rest⟩
theorem aB6.keep {l:List Pt} {x:Int} {j:Nat} {R:List Pt} (h:aB6 l x j R)(hj:j<l.length)(hx:aBC x l[j]=true):aB6 l x (j+1) (R.set (sK x (l.take j)).length l[j]):=by
 have e:=tZ (x:=x) hj
 rw [hx,cond_true] at e
 have hle:=aMZ l x j
 have hk:=h.kept
 have hlen:=h.len
 first |refine aE (by omega) (bZ (by rw [zA];exact h.len) (?_) ?_)|refine aE ⟨by omega,by rw [zA];exact h.len,?_⟩ ?_ |refine⟨by omega,by rw [zA];exact h.len,?_,?_⟩
 ·rw [e,zI,List.length_singleton]
  generalize sK x (l.take j)=K at hk hle⊢
  rw [zJ (by rw [zA];omega),List.getElem_set_self,List.take_set_of_le (Nat.le_refl _),hk]
 ·rw [List.drop_set_of_lt (by omega)]
  exact aCH h.rest
theorem aB6.start {l:List Pt} {x:Int} {n:Nat} (hn:n<l.length)(hx:aBC x l[n]=false)(hb:∀j (hj:j<n),aBC x (l[j]'(by omega))=true):aB6 l x (n+1) l∧(sK x (l.take (n+1))).length=n:=by
 have e:=tZ (x:=x) hn
 rw [hx,cond_false,zG] at e
 have e2:sK x (l.take n)=l.take n:=List.filter_eq_self.2 fun y hm=>by
  obtain⟨j,hj,rfl⟩:=zT hm
  rw [zF] at hj
  rw [List.getElem_take]
  exact hb j (by omega)
 have e3:(l.take n).length=n:=by rw [zF];omega
 rw [e,e2]
 refine⟨⟨by omega,rfl,?_,rfl⟩,e3⟩
 rw [e,e2,e3]
theorem uI(x:Int)(p:Pt):aBC x p= !(p.frame==x):=rfl
set_option maxHeartbeats 2000000 in
theorem bGD(l:List Pt)(x:Int)(hl:l.length≤100000):aQ Tryz.prog 349 [.row 5 (bQ l),.box [.int .i64 x]] [.sl 0 0 l.length,.fn 317 [.ptr 1 0 0]] (.sl 0 0 (sK x l).length)
 [.row 5 (bQ (sK x l++zE (l.length- (sK x l).length) p0)),.box [.int .i64 x]]:=by
 generalize hk:sK x l=q
 have p83:=bGH l false 317 [.rp 1 [.int .i64 x] 0] (fun y=>y.frame==x) call317 rfl (fun y _=>bAH y x) (by omega)
 have ht0:((bQ l).drop 0).take l.length=bQ l:=eF (dS l)
 have key:aQ Tryz.prog 360 [] [.lst 5 false (((bQ l).drop 0).take l.length),.fn 317 [.rp 1 [.int .i64 x] 0]] (.int .i64 (dW (fun y:Pt=>y.frame==x) l)) []:=by rw [ht0];exact p83
 have hge:=(aGD (fun y:Pt=>y.frame==x) l)
 refine bM (ob0:= [.row 5 (bQ l),.box [.int .i64 x]]) [] Tryz.func349 rfl rfl rfl rfl ?_
 refine Wy ?_
 refine .inl ⟨_,fun _=>⟨?_,key⟩,.inr rfl,?_⟩
 ·intro v hv
  have hv:v∈ [V.sl 0 0 l.length,V.fn 317 [V.ptr 1 0 0]]:=hv
  rcases List.mem_cons.1 hv with rfl |hv
  ·show 0+l.length≤(bQ l).length
   rw [dS];omega
  ·obtain rfl:=List.mem_singleton.1 hv
   intro c hc
   obtain rfl:=List.mem_singleton.1 hc
   exact⟨rfl,rfl⟩
 refine Wy ?_
 refine bIG (fun h1=>?_) (fun h1=>?_)
 ·have hno:sK x l=l:=List.filter_eq_self.2 fun y hy=>by
   have :=(qM (fun y:Pt=>y.frame==x) l).1 (by omega) y hy
   rw [uI,this];rfl
  rw [hno] at hk
  subst hk
  rw [Nat.sub_self,List.replicate_zero,zG]
  exact Wo2
 obtain⟨n,hn,hin,hx,hb⟩:=nM (fun y:Pt=>y.frame==x) l (by omega)
 rw [hin]
 obtain⟨hD,hDl⟩:=aB6.start (x:=x) hn (by rw [uI,hx];rfl) (fun j hj=>by rw [uI,hb j hj];rfl)
 clear h1 key p83 ht0
 refine Wy ?_
 refine Lp (α:=Nat×List Pt) (fun p=>aB6 l x p.1 p.2) (fun p=> [(5,.int .i64 ((sK x (l.take p.1)).length:Int)),(6,.int .i64 (p.1:Int))]) (fun p=> [(0,.row 5 (bQ p.2))]) (fun p=>l.length-p.1) (n+1,l) hD ?_ ?_
 ·simp only [hDl]
  exact Vr [_,_]
 rintro ⟨j,R⟩ hp
 have hle:=hp.le
 have hlen:=hp.len
 have hwl:=aMZ l x j
 dsimp only at *
 refine Wy ?_
 refine lP (fun h2=>?_) (fun h2=>?_)
 ·have h2:j<l.length:=by omega
  have hRj:=hp.getj h2
  have hg:=aZ4 R j (by omega)
  rw [hRj] at hg
  have hskip:=fun h=>hp.skip h2 h
  have hkeep:=fun h=>hp.keep h2 h
  have ws:=tZ (x:=x) h2
  have k317:=bAH l[j] x
  have hne:=uI x l[j]
  have hrs:∀(K:Nat) (z:Pt),bQ (R.set K z)=(bQ R).set K z.c:=fun K z=>(aQI R K z).symm
  generalize l[j]=z at *
  refine Wy ?_
  refine⟨call317,.inl ⟨.bool (z.frame==x),fun _=>⟨?_,k317⟩,.inr rfl,?_⟩⟩
  ·intro v hv
   have hv:v∈ [V.agg z.c,V.ptr 1 0 0]:=hv
   rcases List.mem_cons.1 hv with rfl |hv
   ·exact aO0 (show aQ2 (V.agg z.c)=true from rfl)
   ·obtain rfl:=List.mem_singleton.1 hv
    exact⟨rfl,rfl⟩
  refine Wy ?_
  refine aI (fun h3=>?_) (fun h3=>?_)
  ·have hn:aBC x z=true:=h3
   have hkeep:=hkeep hn
   rw [hn,cond_true] at ws
   generalize sK x (l.take j)=K at *
   refine Wy ?_
   refine Le (j+1,R.set K.length z) (hI:=hkeep) (hv:=?_)
   simp only [ws,hrs]
   exact Vr [_,_]
  ·have hn:aBC x z=false:=h3
   have hskip:=hskip hn
   rw [hn,cond_false,zG] at ws
   refine Wy ?_
   refine Le (j+1,R) (hI:=hskip) (hv:=?_)
   simp only [ws]
   exact Vr [_,_]
 have h2:j=l.length:=by omega
 subst h2
 have hkept:=hp.kept
 rw [List.take_length,hk] at hkept hwl⊢
 refine Wy ?_
 refine sQ.mk ?_
 conv=>whnf
 refine⟨[some 0,some 1],?_,rfl,?_,rfl,?_⟩
 ·have e:zR (0+((q.length:Int)).toNat) (bQ R)++zE (l.length-q.length) p0.c++zY (0+(q.length:Int).toNat+(l.length-q.length)) (bQ R)=bQ (q++zE (l.length-q.length) p0):=by
   rw [zM,Nat.zero_add,List.drop_of_length_le (by rw [dS];omega),zG]
   unfold bQ
   rw [←List.map_take,hkept,List.map_append,List.map_replicate]
  rw [←e]
  exact Cz
 ·exact Cz
 ·exact Cz
theorem aWL(l:List Pt)(x:Int):(sK x l).length≤l.length:=zP _ _
theorem bG2(l:List Pt)(x:Int)(hl:l.length≤100000)(hc:aB9 l=true):aQ Tryz.prog 316 [.box [.int .i64 x]] [.lst 5 false (bQ l),.fn 317 [.ptr 0 0 0]] (.lst 5 false (bQ (sK x l))) [.box [.int .i64 x]]:=by
 have k190:=aTD (bQ l) false (by rw [dS];omega)
 have k232:=bFJ l hl
 have k349:=bGD l x hl
 have hfl:=aWL l x
 rw [dS] at k190
 rw [hc] at k232
 have e:zR (sK x l).length (zY 0 (bQ (sK x l++zE (l.length- (sK x l).length) p0)))=bQ (sK x l):=by
  unfold bQ
  rw [List.drop_zero,List.map_append,List.take_append_of_le_length (by rw [List.length_map];omega),List.take_of_length_le (by rw [List.length_map];omega)]
 have e2:0+(sK x l).length≤(bQ (sK x l++zE (l.length- (sK x l).length) p0)).length:=by rw [dS,zI];omega
 generalize bQ (sK x l++zE (l.length- (sK x l).length) p0)=RR at *
 generalize hq:sK x l=q at *
 refine bM (ob0:= [.box [.int .i64 x]]) [] Tryz.func316 rfl rfl rfl rfl ?_
 refine Wy ?_
 rw [←e]
 refine sQ.mk ?_
 conv=>whnf
 refine⟨[some 0],?_,rfl,?_,rfl,?_⟩
 all_goals exact Cz
theorem bFL(l:List Pt)(x:Int)(hl:l.length≤100000)(hc:aB9 l=true):aQ Tryz.prog 244 [] [.lst 5 false (bQ l),.int .i64 x] (.lst 5 false (bQ (tX l x))) []:=by
 have k316:=bG2 l x hl hc
 have e:tX l x=sK x l:=by unfold tX;rw [hc];rfl
 rw [e]
 generalize sK x l=q at *
 refine bM (ob0:= []) [] Tryz.func244 rfl rfl rfl rfl ?_
 exact Wz
end Go.Proofs.YtmhapcbjjpadnaaGreat
set_option maxRecDepth 40000
namespace Go.Proofs.YtmhapcbjjpadnaaGreat
open Go Go.Sk Go.RowKit
theorem aT3(fr:List (Option Us))(m:Nat)(hm:m<fr.length)(hr:fr.length≤64)(Z G P R1 R3 R4:List (List V))(nf nl nk:Nat):
 aQ Tryz.prog 147 [.box [.sl 1 0 nf,.sl 2 0 fr.length,.lst 6 false Z,.lst 3 false G,.sl 3 0 nl,.sl 4 0 nk,.lst 5 false P],.row 15 R1,.row 9 (bE fr),.row 3 R3,.row 1 R4] [.ptr 0 0 0,.int .i64 ((m+1:Nat):Int)] (.ptr 2 m 0)
  [.box [.sl 1 0 nf,.sl 2 0 fr.length,.lst 6 false Z,.lst 3 false G,.sl 3 0 nl,.sl 4 0 nk,.lst 5 false P],.row 15 R1,.row 9 (bE fr),.row 3 R3,.row 1 R4]:=by
 refine bM (ob0:= [.box [.sl 1 0 nf,.sl 2 0 fr.length,.lst 6 false Z,.lst 3 false G,.sl 3 0 nl,.sl 4 0 nk,.lst 5 false P],.row 15 R1,.row 9 (bE fr),.row 3 R3,.row 1 R4]) [] Tryz.func147 rfl rfl rfl rfl ?_
 exact Wo5
def Dc.goneP(c:Dc)(n:Nat)(u:Us)(v:Int):Dc:=
 ⟨c.fl.set u.file (dG (c.fl.getD u.file aK) (dA (c.fl.getD u.file aK).E u.page (v,0))),c.fr.set n none,(eB (c.zo.map fH) c.zo ((n+1:Nat):Int)).1,(iX c.gr u.ten).1,c.ls.set u.ten (sE (c.ls.getD u.ten l0) ((n+1:Nat):Int)).1,c.ck,tX c.pt ((n+1:Nat):Int)⟩
set_option maxHeartbeats 8000000 in
theorem aZK(c:Dc)(h:Ok c)(m:Nat)(u:Us)(h1:m<c.fr.length)(h2:c.fr.getD m none=some u)(v:Int):
 aQ Tryz.prog 153 c.b [.ptr 0 0 0,.int .i64 ((m+1:Nat):Int),.int .i64 v] (.tup []) (c.goneP m u v).b:=by
 have hr:=h.nr
 have hu:=h.use m u h1 h2
 have hg:=h.good h1 h2
 have hf:=hu.file
 have ht:u.ten<c.ls.length:=by rw [h.nl];exact hu.ten
 have k147:=sN c m h1 hr
 have k156:=aT4 c m u h1 h2 hf hr
 have hgu:=pH h1 h2
 have hgf:=mV hf
 have hgl:=rT c.ls u.ten ht
 have kf:=h.file _ hf
 have hE':bK (dA (c.fl.getD u.file aK).E u.page (v,0)):=kf.E.set (Nat.zero_lt_succ _) (fun _=>rfl)
 have k148:=aNQ kf.E kf.sup u.page hg.page v
 have k244:=bFL c.pt ((m+1:Nat):Int) h.ptl h.pt
 have k245:=bA2 (c.ls.getD u.ten l0) ((m+1:Nat):Int) (h.smL _)
 have k246:=bFM c.gr u.ten hu.ten h.gr
 have k247:=bA3 c.zo false ((m+1:Nat):Int) h.smZ
 have hput:=rS c.fl u.file _ hf kf.E hE'
 rw [iE c.fl u.file hf] at hput
 have hsetl:∀x:Ls,(cN c.ls).set u.ten (aR 3 (c.ls.getD u.ten l0).c 0 x.c)=cN (c.ls.set u.ten x):=fun x=>aA3 c.ls u.ten x
 have hsetu:(bE c.fr).set m (aR 9 u.c 0 fre.c)=bE (c.fr.set m none):=by
  have :aR 9 u.c 0 fre.c=fre.c:=rfl
  rw [this];unfold bE;rw [List.map_set];rfl
 obtain⟨k0,k1,k2,k3,hfc,hcan⟩:=Df.cells kf.E
 obtain⟨q0,q1,q2,q3,hcan'⟩:=bC hE'
 rw [hfc] at hgf hput
 rw [hcan'] at hput
 rw [hcan,hcan'] at k148
 have hb:(c.goneP m u v).b=[.box [.sl 1 0 c.fl.length,.sl 2 0 c.fr.length,.lst 6 false (aW (eB (c.zo.map fH) c.zo ((m+1:Nat):Int)).1),.lst 3 false (bP (iX c.gr u.ten).1),.sl 3 0 c.ls.length,.sl 4 0 c.ck.length,.lst 5 false (bQ (tX c.pt ((m+1:Nat):Int)))],.row 15 (bG (c.fl.set u.file (dG (c.fl.getD u.file aK) (dA (c.fl.getD u.file aK).E u.page (v,0))))),.row 9 (bE (c.fr.set m none)),.row 3 (cN (c.ls.set u.ten (sE (c.ls.getD u.ten l0) ((m+1:Nat):Int)).1)),.row 1 (aJ c.ck)]:=by
  unfold Dc.b Dc.goneP
  dsimp only
  rw [zA,zA,zA]
 rw [hb,←hput,←hsetu,←hsetl]
 generalize(eB (c.zo.map fH) c.zo ((m+1:Nat):Int)).1=z2 at *
 generalize(eB (c.zo.map fH) c.zo ((m+1:Nat):Int)).2=ze at *
 generalize(iX c.gr u.ten).1=g2 at *
 generalize(iX c.gr u.ten).2=ge at *
 generalize tX c.pt ((m+1:Nat):Int)=p2 at *
 generalize(sE (c.ls.getD u.ten l0) ((m+1:Nat):Int)).2=le at *
 generalize(sE (c.ls.getD u.ten l0) ((m+1:Nat):Int)).1=l2 at *
 have k147':=aT3 c.fr m h1 hr (aW z2) (bP g2) (bQ p2) (bG (c.fl.set u.file (dG (c.fl.getD u.file aK) (dA (c.fl.getD u.file aK).E u.page (v,0))))) (cN (c.ls.set u.ten l2)) (aJ c.ck) c.fl.length c.ls.length c.ck.length
 rw [←hput,←hsetl] at k147'
 clear hb hput hsetl hsetu
 refine bM (ob0:=c.b) [] Tryz.func153 rfl rfl rfl rfl ?_
 exact Wo5
end Go.Proofs.YtmhapcbjjpadnaaGreat
set_option maxRecDepth 40000
namespace Go.Proofs.YtmhapcbjjpadnaaGreat
open Go Go.Sk Go.RowKit
theorem bFB(p:Pg)(h:dU p)(off n:Nat)(hr:off+n≤16)(hn:mH p off n false=0):aQ Tryz.prog 165 [] [.agg p.c,.int .i64 (off:Int),.int .i64 (n:Int)] (.tup [.str (p.b.extract off (off+n)),.int .i64 0]) []:=by
 have k265:=bA5 p h off n hr false hn
 have hs:=h.size
 refine bM (ob0:= []) [] Tryz.func165 rfl rfl rfl rfl ?_
 exact Wz
theorem aPW(b d:List UInt8)(f:Nat→Bool)(k:Nat)(hb:b.length=16)(hd:d.length=16)(hk:k<2)(hf:f k=true):
 iS b d f (k*8+8)=(iS b d f (k*8)).take (k*8)++(d.drop (k*8)).take 8++(iS b d f (k*8)).drop (k*8+8):=by
 have hl:=iD b d f (k*8)
 have l1:((iS b d f (k*8)).take (k*8)).length=k*8:=by rw [zF,hl];omega
 have l2:((d.drop (k*8)).take 8).length=8:=by rw [zF,zZ];omega
 have l3:((iS b d f (k*8)).take (k*8)++(d.drop (k*8)).take 8).length=k*8+8:=by rw [zI,l1,l2]
 apply zL
 intro j
 by_cases hj:j<b.length
 ·rw [jL _ _ _ _ _ hj,zQ,l3]
  by_cases c1:j<k*8+8
  ·rw [if_pos c1,zQ,l1]
   by_cases c2:j<k*8
   ·rw [if_pos c2,zV,if_pos c2,jL _ _ _ _ _ hj,decide_eq_true c1,decide_eq_true c2]
   ·rw [if_neg c2,zV,if_pos (by omega),zH,show k*8+(j-k*8)=j by omega,decide_eq_true c1,show j/8=k by omega,hf]
    simp [zD,show j<d.length by omega]
  ·rw [if_neg c1,zH,show k*8+8+(j- (k*8+8))=j by omega,jL _ _ _ _ _ hj,decide_eq_false c1,decide_eq_false (by omega)]
 ·rw [zC (by rw [iD];omega),zC (by rw [zI,l3,zZ,hl];omega)]
theorem aLJ(b d:List UInt8)(f:Nat→Bool)(k:Nat)(hf:f k=false):iS b d f (k*8+8)=iS b d f (k*8):=by
 apply zL
 intro j
 by_cases hj:j<b.length
 ·rw [jL _ _ _ _ _ hj,jL _ _ _ _ _ hj]
  by_cases c1:j/8=k
  ·rw [c1,hf,Bool.and_false,Bool.and_false]
  ·rw [show decide (j<k*8+8)=decide (j<k*8) by rw [decide_eq_decide];omega]
 ·rw [zC (by rw [iD];omega),zC (by rw [iD];omega)]
theorem aSA {s v k:Nat} (hs:s<4)(hv:v<4)(hk:k<2):(((gP false s v &&& 2^k:Nat):Int) != 0)=pV s v k:=by
 have key:∀s v:Fin 4,∀k:Fin 2,(((gP false s.val v.val &&& 2^k.val:Nat):Int) != 0)=pV s.val v.val k.val:=by decide
 exact key ⟨s,hs⟩ ⟨v,hv⟩ ⟨k,hk⟩
theorem aRW(d:ByteArray)(hd:d.size=16)(k:Nat)(hk:k<2):(d.extract (k*8) d.size).data.toList.take (min (d.extract (k*8) d.size).size 8)=(d.data.toList.drop (k*8)).take 8∧min (d.extract (k*8) d.size).size 8=8:=by
 have e:(d.extract (k*8) d.size).size=16-k*8:=by rw [ByteArray.size_extract,hd];omega
 have e2:min (d.extract (k*8) d.size).size 8=8:=by rw [e];omega
 refine⟨?_,e2⟩
 rw [e2,ByteArray.data_extract,Array.toList_extract,List.extract_eq_take_drop,List.take_take]
 congr 1
 omega
set_option maxHeartbeats 1000000 in
theorem bFA(p:Pg)(h:dU p)(s:Nat)(hs:s<4)(d:ByteArray)(hd:d.size=16):aQ Tryz.prog 157 [] [.agg p.c,.int .i64 (s:Int),.str d] (.tup [.agg (nC p s d).c,.int .i64 0]) []:=by
 have k233:=aTH p h
 have k253:=aNT s hs
 have hp:=h.size
 have hv:=h.v
 have hd4:=h.d
 refine bM (ob0:= []) [] Tryz.func157 rfl rfl rfl rfl ?_
 have hdl:d.data.toList.length=16:=hd
 have hpl:p.b.data.toList.length=16:=hp
 have hN:=gH (x:=s) (y:=p.v) (by omega) (by omega)
 have hch:gP false s p.v<4:=by
  have key:∀s v:Fin 4,gP false s.val v.val<4:=by decide
  exact key ⟨s,hs⟩ ⟨p.v,hv⟩
 have hall:=fun(i:Nat) (b:i<2)=>aSA hs hv b
 generalize gP false s p.v=w at *
 simp only [nC,Pg.c]
 obtain⟨Z,hZ⟩:∃Z,Z=iS p.b.data.toList d.data.toList (pV s p.v) 16:=⟨_,rfl⟩
 rw [←hZ]
 refine Wy ?_
 refine Lp (fun i:Nat=>i≤2) (fun i=> [(26,.int .i64 (i:Int))]) (fun i=> [(2,.bb (iS p.b.data.toList d.data.toList (pV s p.v) (i*8)))]) (fun i=>2-i) 0 (zK _) ?_ ?_
 ·simp only [Nat.zero_mul,aLK]
  exact Vr [_,_,_]
 intro i hi
 have hl:=iD p.b.data.toList d.data.toList (pV s p.v) (i*8)
 rw [hpl] at hl
 refine Wy ?_
 refine lP (fun b=>?_) (fun b=>?_)
 ·have b:i<2:=by omega
  have h2:2^i<4:=Nat.pow_lt_pow_right (m:=i) (n:=2) (by omega) (by omega)
  have hall':Hd (∀(i:Nat),i<2→(((w &&& 2^i:Nat):Int) != 0)=pV s p.v i):=⟨hall⟩
  clear hall
  refine Wy ?_
  refine aI (fun c=>?_) (fun c=>?_)
  ·have c:pV s p.v i=true:=by rw [←hall'.h i b];exact c
   obtain⟨x1,x2⟩:=aRW d hd i b
   have xs:(d.extract (i*8) d.size).size=16-i*8:=by rw [ByteArray.size_extract,hd];omega
   have hblk:=aPW p.b.data.toList d.data.toList (pV s p.v) i hpl hdl b
   generalize iS p.b.data.toList d.data.toList (pV s p.v) (i*8)=PL at *
   have hst:=hblk c
   have hst:iS p.b.data.toList d.data.toList (pV s p.v) (i*8+8)=zR (0+((i*8:Nat):Int).toNat) PL++zR (min (d.extract (((i*8:Nat):Int)).toNat ((d.size:Int)).toNat).size ((((i:Int)+1)*8).toNat- ((i:Int)*8).toNat)) (d.extract (((i*8:Nat):Int)).toNat ((d.size:Int)).toNat).data.toList++zY (0+((i*8:Nat):Int).toNat+min (d.extract (((i*8:Nat):Int)).toNat ((d.size:Int)).toNat).size ((((i:Int)+1)*8).toNat- ((i:Int)*8).toNat)) PL:=by
    rw [show((i*8:Nat):Int).toNat=i*8 by omega,show(((i:Int)+1)*8).toNat- ((i:Int)*8).toNat=8 by omega,zM,x1,x2,Nat.zero_add];exact hst
   clear x1 x2
   refine Wy ?_
   refine Le (i+1) (hv:=?_)
   simp only [Nat.add_mul,Nat.one_mul,hst]
   exact Vr [_,_,_]
  ·have c:pV s p.v i=false:=by rw [←hall'.h i b];exact c
   have hst:=aLJ p.b.data.toList d.data.toList _ i c
   refine Wy ?_
   refine Le (i+1) (hv:=?_)
   simp only [Nat.add_mul,Nat.one_mul,hst]
   exact Vr [_,_,_]
 obtain rfl:i=2:=by omega
 have ht:Z=zR p.b.size (zY 0 (iS p.b.data.toList d.data.toList (pV s p.v) (2*8))):=by
  have h16:=iD p.b.data.toList d.data.toList (pV s p.v) 16
  rw [hpl] at h16
  rw [hZ];exact(bAV (by rw [h16];omega)).symm
 rw [ht]
 clear hZ
 exact eR
end Go.Proofs.YtmhapcbjjpadnaaGreat
