/- Caches. -/
import Derived.Test.YtmhapcbjjpadnaaGreatGEb
import Derived.Test.YtmhapcbjjpadnaaGreatK8b
import Derived.Test.YtmhapcbjjpadnaaGreatGFb
import Derived.Test.YtmhapcbjjpadnaaGreatGGb
import Derived.Test.YtmhapcbjjpadnaaGreatGCb
import Derived.Test.YtmhapcbjjpadnaaGreatG6b
import Derived.Test.YtmhapcbjjpadnaaGreatG3b
import Derived.Test.YtmhapcbjjpadnaaGreatGIb
set_option linter.all false
set_option maxHeartbeats 8000000
set_option maxRecDepth 40000
open Bool renaming cond_false_right→zJ,cond_true_left→zL,not_eq_false'→zN,not_eq_true'→zQ
open Int renaming toNat_natCast→zS
open List renaming length_set→zA,replicate→zC,append_nil→zD,take_succ_eq_append_getElem→zE,getD_eq_getElem?_getD→zF,getElem?_eq_getElem→zH,length_take→zI,length_filter_le→zK,getElem_of_mem→zM,getElem?_drop→zO,length_append→zP,getElem_mem→zT
open Nat renaming zero_le→zG
namespace Go.Proofs.YtmhapcbjjpadnaaGreat
open Go Go.Sk Go.RowKit
theorem aWA(E:cM)(h a:Nat):∃k0 k1 k2 v m,sub E h a=[.lst k0 k1 k2,.int .i64 v,.int .i64 m]:=by
 cases h with
 |zero=>exact⟨0,true,[],_,_,rfl⟩
 |succ h=>
  rw [sub]
  cases fQ E a (4^(h+1)) with
  |true=>exact⟨0,true,[],0,0,rfl⟩
  |false=>exact⟨3,false,_,0,_,rfl⟩
theorem aUS(v m:Int):aM Tryz.prog 191 [] [.agg [bR,.int .i64 v,.int .i64 m]] (.agg [bR,.int .i64 v,.int .i64 m]) []:=by
 refine aK (ob0:= []) [] Tryz.func191 rfl rfl rfl rfl ?_
 refine Wx ?_
 refine Lp (λ_:Unit=>True) (λ_=> [(11,.int .i64 0)]) (λ_=> []) (λ_=>0) () trivial ?_ ?_
 ·exact Vr [_,_]
 intro _ _
 exact Wz
theorem bEH(K:List (List V))(v m:Int)(hK:K.length<=4)(hc:∀i,i<K.length->∃k0 k1 k2 a b,K.getD i []=[.lst k0 k1 k2,.int .i64 a,.int .i64 b]/\aM Tryz.prog 191 [] [.agg [.lst k0 k1 k2,.int .i64 a,.int .i64 b]] (.agg [.lst k0 k1 k2,.int .i64 a,.int .i64 b]) []):
 aM Tryz.prog 191 [] [.agg [.lst 3 false K,.int .i64 v,.int .i64 m]] (.agg [.lst 3 false K,.int .i64 v,.int .i64 m]) []:=by
 refine aK (ob0:= []) [] Tryz.func191 rfl rfl rfl rfl ?_
 refine Wx ?_
 refine Lp (λi:Nat=>i<=K.length) (λi=> [(11,.int .i64 (i:Int))]) (λi=> [(0,.box [.sl 2 0 i,.int .i64 v,.int .i64 m]),(2,.row 3 (K.take i))]) (λi=>K.length-i) 0 (zG _) ?_ ?_
 ·exact Vr [_,_,none]
 intro i hi
 have hl:(K.take i).length=i:=by rw [zI];omega
 refine Wx ?_
 refine fP (λb=>?_) (λb=>?_)
 ·have b:i<K.length:=by omega
  obtain⟨k0,k1,k2,x,y,hg,k191⟩:=hc i b
  have hs:K.take (i+1)=K.take i++ [[.lst k0 k1 k2,.int .i64 x,.int .i64 y]]:=by rw [aCD [] b,hg]
  refine Wx ?_
  refine Le (i+1) (hv:=?_)
  simp only [hs]
  exact Vr [_,_,_]
 obtain rfl:i=K.length:=by omega
 exact Wz
theorem bB8(E:cM):∀h a,aM Tryz.prog 191 [] [.agg (sub E h a)] (.agg (sub E h a)) []
 |0,a=>aUS _ _
 |h+1,a=>by
  rw [sub]
  cases fQ E a (4^(h+1)) with
  |true=>exact aUS 0 0
  |false=>
   refine bEH _ _ _ (Nat.le_refl 4) λi hi=>?_
   have hi:i<4:=hi
   have hg:=eN E h a i hi
   obtain⟨k0,k1,k2,v,m,e⟩:=aWA E h (a+i*4^h)
   have ih:=bB8 E h (a+i*4^h)
   rw [e] at ih hg
   exact⟨k0,k1,k2,v,m,hg,ih⟩
end Go.Proofs.YtmhapcbjjpadnaaGreat
namespace Go.Proofs.YtmhapcbjjpadnaaGreat
open Go Go.Sk Go.RowKit
def noZ(z:Zn):Zn:=⟨z.first,z.size,z.min,z.low,z.high,z.free,false⟩
def Dc.x(c:Dc):Dc:=⟨c.fl,c.fr,c.zo.map noZ,c.gr,c.ls,c.ck,c.pt⟩
def Dc.b(c:Dc):List Sk.Obj:= [.box [.sl 1 0 c.fl.length,.sl 2 0 c.fr.length,.lst 6 false (aQ c.zo),.lst 3 false (bC c.gr),.sl 3 0 c.ls.length,.sl 4 0 c.ck.length,.lst 5 false (aY c.pt)],.row 15 (bA c.fl),.row 9 (aV c.fr),.row 3 (bW c.ls),.row 1 (aE c.ck)]
theorem aLK {α:Type} {l:List α} {i:Nat} {x d:α} (h:i<l.length)(e:x=l.getD i d):l.set i x=l:=by
 subst e
 apply List.ext_getElem?
 intro j
 rw [List.getElem?_set]
 split
 ·rename_i e;subst e
  simp [zF,h]
 ·rfl
theorem eV.free_ {l:List Zn} (h:eV l)(j:Nat)(hj:j<l.length):(l.getD j gD).free.length*8<=140737488355328:=by
 have :=h.free (l.getD j gD) (by rw [uJ l j hj];exact zT hj)
 omega
theorem aRQ(c:Dc)(h:Ok c):aM Tryz.prog 82 [] [.agg c.c] (.ptr 0 0 0) c.x.b:=by
 have hsm:=h.sm
 have g1:=hsm.fl
 have g2:=hsm.fr
 have g3:=hsm.gr
 have g4:=hsm.ls
 have g5:=hsm.ck
 have g6:=(aAI h.zone).2
 have g7:=h.ptl
 have k185:=bB5 (bA c.fl) false (by rw [aZ];omega)
 have k186:=bB6 (aV c.fr) false (by rw [bU];omega)
 have k187:=aUQ (aQ c.zo) false (by rw [aG];omega)
 have k188:=aPB (bC c.gr) false (by rw [aI];omega)
 have k189:=bB7 (bW c.ls) false (by rw [bT];omega)
 have k107:=uB (aE c.ck) false (by rw [aA];omega)
 have k190:=aUR (aY c.pt) false (by rw [aS];omega)
 rw [aZ] at k185
 rw [bU] at k186
 rw [aG] at k187
 rw [aI] at k188
 rw [bT] at k189
 rw [aA] at k107
 rw [aS] at k190
 unfold Dc.b Dc.x
 dsimp only
 obtain⟨R,hR⟩:∃R:Nat->List (List V),∀i,R i=bA c.fl:=⟨λ_=>bA c.fl,λ_=>rfl⟩
 obtain⟨S,hS⟩:∃S:Nat->List (List V),∀i,S i=bW c.ls:=⟨λ_=>bW c.ls,λ_=>rfl⟩
 refine aK (ob0:= []) [] Tryz.func82 rfl rfl rfl rfl ?_
 refine Wx ?_
 refine Lp (λi:Nat=>i<=c.fl.length) (λi=> [(33,.int .i64 (i:Int))]) (λi=> [(1,.row 15 (R i))]) (λi=>c.fl.length-i) 0 (zG _) ?_ ?_
 ·simp only [hR]
  exact Vr [some 0,some 2080,some 2128,some 2176,some 2224,some 2272,some 2320,some 2368,some 2400]
 intro i hi
 have hRl:(R i).length=c.fl.length:=by rw [hR,aZ]
 refine Wx ?_
 refine fP (λb=>?_) (λb=>?_)
 ·have b:i<c.fl.length:=by omega
  have hg:=iS b
  obtain⟨k0,k1,k2,k3,hfc,hcan⟩:=Df.cells (h.file i b).E
  have k191:=bB8 (c.fl.getD i aP).E (hgt (c.fl.getD i aP).E) 0
  unfold can at hcan
  rw [(List.cons.inj hcan).2] at k191
  have hst:R (i+1)=(R i).set i (aU 15 ((bA c.fl).getD i []) 3 [.lst k0 k1 k2,.int .i64 k3,.int .i64 (lI (c.fl.getD i aP).E 0 (4^hgt (c.fl.getD i aP).E):Nat)]):=by
   rw [hR,hR]
   refine(aLK (d:= []) (by rw [aZ];exact b) ?_).symm
   rw [hg,hfc];rfl
  rw [<-hR i] at hg
  rw [<-hR i,hg] at hst
  rw [hfc] at hg hst
  refine Wx ?_
  refine Le (i+1) (hv:=?_)
  simp only [hst]
  exact Vr [some 0,some 1,some 2,some 3,some 4,some 5,some 6,some 7,some 8]
 clear b hRl
 refine Wx ?_
 refine Lp (λi:Nat=>i<=c.zo.length) (λi=> [(54,.int .i64 (i:Int))]) (λi=> [(3,.row 6 (aQ (oI noZ c.zo i)))]) (λi=>c.zo.length-i) 0 (zG _) ?_ ?_
 ·rw [aGD]
  exact Vr [some 0,some 1,some 2,some 3,some 4,some 5,some 6,some 7,some 8]
 intro j hj
 have hZl:=vN noZ c.zo j
 refine Wx ?_
 refine fP (λb=>?_) (λb=>?_)
 ·have b:j<c.zo.length:=by omega
  have hg:=eK (oI noZ c.zo j) j (by rw [hZl];exact b)
  have e:(oI noZ c.zo j)[j]'(by rw [hZl];exact b)=c.zo.getD j gD:=by
   rw [<-aEB noZ c.zo j gD b]
   simp [zF,b]
  rw [e] at hg
  have hf:=(nB h.zone).free_ j b
  have hst:=aAX noZ c.zo j gD b
  have hzc:(noZ (c.zo.getD j gD)).c=aU 6 (c.zo.getD j gD).c 5 [.lst 1 false (aE (c.zo.getD j gD).free)]:=rfl
  have hrs:aQ (oI noZ c.zo (j+1))=(aQ (oI noZ c.zo j)).set j (aU 6 (c.zo.getD j gD).c 5 [.lst 1 false (aE (c.zo.getD j gD).free)]):=by
   rw [hst,<-hzc];unfold aQ;rw [List.map_set]
  generalize c.zo.getD j gD=z at *
  obtain⟨z1,z2,z3,z4,z5,z6,z7⟩:=z
  have k107f:=aEJ (aE z6) z7 (by rw [aA];exact hf)
  refine Wx ?_
  refine Le (j+1) (hv:=?_)
  simp only [hrs]
  exact Vr [some 0,some 1,some 2,some 3,some 4,some 5,some 6,some 7,some 8]
 obtain rfl:j=c.zo.length:=by omega
 rw [aKO]
 clear b hZl
 refine Wx ?_
 refine Lp (λi:Nat=>i<=c.ls.length) (λi=> [(73,.int .i64 (i:Int))]) (λi=> [(5,.row 3 (S i))]) (λi=>c.ls.length-i) 0 (zG _) ?_ ?_
 ·simp only [hS]
  exact Vr [some 0,some 1,some 2,some 3,some 4,some 5,some 6,some 7,some 8]
 intro k hk
 have hSl:(S k).length=c.ls.length:=by rw [hS,bT]
 refine Wx ?_
 refine fP (λb=>?_) (λb=>?_)
 ·have b:k<c.ls.length:=by omega
  have hg:=kD c.ls k b
  have hl:=h.smL k
  have hst:S (k+1)=(S k).set k (aU 3 ((bW c.ls).getD k []) 0 (c.ls.getD k l0).c):=by
   rw [hS,hS]
   refine(aLK (d:= []) (by rw [bT];exact b) ?_).symm
   rw [hg];rfl
  have hg2:(S k).getD k []=(c.ls.getD k l0).c:=by rw [hS];exact hg
  rw [hg] at hst
  generalize c.ls.getD k l0=l at *
  obtain⟨A,I,Rf⟩:=l
  have k1:=aEJ (aE A) false (by rw [aA];have :=hl.a;dsimp only at this;omega)
  have k2:=aEJ (aE I) false (by rw [aA];have :=hl.i;dsimp only at this;omega)
  have k3:=aEJ (aE Rf) false (by rw [aA];have :=hl.r;dsimp only at this;omega)
  refine Wx ?_
  refine Le (k+1) (hv:=?_)
  simp only [hst]
  exact Vr [some 0,some 1,some 2,some 3,some 4,some 5,some 6,some 7,some 8]
 refine Wx ?_
 rw [<-hR i,<-hS k]
 refine rE.mk ?_
 conv=>whnf
 refine⟨[some 9,some 1,some 2,some 5,some 6],?_,rfl,?_,rfl,?_⟩
 all_goals exact Cz
end Go.Proofs.YtmhapcbjjpadnaaGreat
namespace Go.Proofs.YtmhapcbjjpadnaaGreat
open Go Go.Sk Go.RowKit
theorem aBZ(c:Dc)(m:Nat)(hm:m<c.fr.length)(hr:c.fr.length<=64):aM Tryz.prog 147 c.b [.ptr 0 0 0,.int .i64 ((m+1:Nat):Int)] (.ptr 2 m 0) c.b:=by
 refine aK (ob0:=c.b) [] Tryz.func147 rfl rfl rfl rfl ?_
 exact Wo5
theorem bAY(c:Dc)(m:Nat)(u:Us)(hm:m<c.fr.length)(hu:c.fr.getD m none=some u)(hf:u.file<c.fl.length)(hr:c.fr.length<=64):aM Tryz.prog 156 c.b [.ptr 0 0 0,.int .i64 ((m+1:Nat):Int)] (.ptr 1 u.file 0) c.b:=by
 have k147:=aBZ c m hm hr
 have hgu:=jB hm hu
 refine aK (ob0:=c.b) [] Tryz.func156 rfl rfl rfl rfl ?_
 exact Wo5
end Go.Proofs.YtmhapcbjjpadnaaGreat
namespace Go.Proofs.YtmhapcbjjpadnaaGreat
open Go Go.Sk Go.RowKit
def Dc.setF(c:Dc)(f:Nat)(x:Df):Dc:=⟨c.fl.set f x,c.fr,c.zo,c.gr,c.ls,c.ck,c.pt⟩
theorem bFD(c:Dc)(f:Nat)(x:Df):(c.setF f x).b=[.box [.sl 1 0 c.fl.length,.sl 2 0 c.fr.length,.lst 6 false (aQ c.zo),.lst 3 false (bC c.gr),.sl 3 0 c.ls.length,.sl 4 0 c.ck.length,.lst 5 false (aY c.pt)],.row 15 (bA (c.fl.set f x)),.row 9 (aV c.fr),.row 3 (bW c.ls),.row 1 (aE c.ck)]:=by
 unfold Dc.b Dc.setF
 dsimp only
 rw [zA]
def Dc.mk1(c:Dc)(u:Us)(k:Nat)(on:Bool):Dc:=c.setF u.file (eP (c.fl.getD u.file aP) (jM (c.fl.getD u.file aP).E u.page on k))
theorem call354:fY Tryz.prog 354:=⟨_,Tryz.func354,rfl,rfl⟩
theorem call353:fY Tryz.prog 353:=⟨_,Tryz.func353,rfl,rfl⟩
theorem bC6(c:Dc)(m:Nat)(u:Us)(h:jQ c m u)(hr:c.fr.length<=64)(k:Nat)(hk:k=1\/k=2\/k=4)(on:Bool):
 aM Tryz.prog 326 c.b [.ptr 0 0 0,.int .i64 ((m+1:Nat):Int),.int .i64 (k:Int),.bool on] (.tup []) (c.mk1 u k on).b:=by
 have h1:=h.at_
 have h2:=h.get
 have hf:=h.file
 have k147:=aBZ c m h1 hr
 have k156:=bAY c m u h1 h2 hf hr
 have hgu:=jB h1 h2
 have hgf:=iS hf
 have hE':bH (jM (c.fl.getD u.file aP).E u.page on k):=h.E.mrk (by omega) h.val
 have hput:=nN c.fl u.file _ hf h.E hE'
 rw [eJ c.fl u.file hf] at hput
 have k354:=bJ6 h.E h.sup u.page h.page k hk h.val
 have k353:=bJ5 h.E h.sup u.page h.page k hk h.val
 obtain⟨k0,k1,k2,k3,hfc,hcan⟩:=Df.cells h.E
 obtain⟨q0,q1,q2,q3,hcan'⟩:=bB hE'
 rw [hfc] at hgf hput
 rw [hcan'] at hput
 unfold Dc.mk1
 rw [bFD,<-hput]
 cases on with
 |true=>
  rw [hcan,hcan'] at k354
  clear k353
  refine aK (ob0:=c.b) [] Tryz.func326 rfl rfl rfl rfl ?_
  refine Wy ?_
  refine And.intro call354 ?_
  exact Wo5
 |false=>
  rw [hcan,hcan'] at k353
  clear k354
  refine aK (ob0:=c.b) [] Tryz.func326 rfl rfl rfl rfl ?_
  refine Wy ?_
  refine And.intro call353 ?_
  exact Wo5
end Go.Proofs.YtmhapcbjjpadnaaGreat
namespace Go.Proofs.YtmhapcbjjpadnaaGreat
open Go Go.Sk Go.RowKit
theorem jQ.mk1 {c:Dc} {m:Nat} {u:Us} (h:jQ c m u) {k:Nat} (hk:k<8) {on:Bool} :jQ (c.mk1 u k on) m u:=by
 have hg:(c.mk1 u k on).fl.getD u.file aP=eP (c.fl.getD u.file aP) (jM (c.fl.getD u.file aP).E u.page on k):=aJ _ _ _ _ h.file
 refine⟨h.at_,h.get,by show u.file< (c.fl.set _ _).length;rw [zA];exact h.file,h.page,?_,?_,?_,h.pg,h.ten,h.rd,h.wr⟩
 ·rw [hg,fO];exact h.E.mrk hk h.val
 ·rw [hg,fO];exact h.sup.mrk
 ·rw [hg,fO,jN];exact h.val
theorem aYQ {c:Dc} {u:Us} (hf:u.file<c.fl.length):(c.mk1 u 1 (u.p.d != 0)).mk1 u 2 (u.wr != 0)=c.mark u:=by
 have hg:(c.mk1 u 1 (u.p.d != 0)).fl.getD u.file aP=eP (c.fl.getD u.file aP) (jM (c.fl.getD u.file aP).E u.page (u.p.d != 0) 1):=aJ _ _ _ _ hf
 unfold Dc.mark Dc.mk1 at *
 rw [hg]
 unfold Dc.setF mE
 dsimp only
 rw [List.set_set];rfl
theorem bBS(c:Dc)(m:Nat)(u:Us)(h:jQ c m u)(hr:c.fr.length<=64):
 aM Tryz.prog 267 c.b [.ptr 0 0 0,.int .i64 ((m+1:Nat):Int)] (.tup []) (c.mark u).b:=by
 have h1:=h.at_
 have k147:=aBZ c m h.at_ hr
 have hgu:=jB h.at_ h.get
 have k1:=bC6 c m u h hr 1 (.inl rfl) (u.p.d != 0)
 have h':=h.mk1 (k:=1) (by decide) (on:=(u.p.d != 0))
 have k147':=aBZ (c.mk1 u 1 (u.p.d != 0)) m h.at_ hr
 have hgu':=jB h'.at_ h'.get
 have k2:=bC6 (c.mk1 u 1 (u.p.d != 0)) m u h' hr 2 (.inr (.inl rfl)) (u.wr != 0)
 rw [aYQ h.file] at k2
 have e1:(((u.p.d:Nat):Int) != 0)=(u.p.d != 0):=by
  cases hd:(u.p.d != 0) with
  |true=>rw [bne_iff_ne] at hd⊢;omega
  |false=>rw [bne_eq_false_iff_eq] at hd⊢;omega
 have e2:(((u.wr:Nat):Int) != 0)=(u.wr != 0):=by
  cases hd:(u.wr != 0) with
  |true=>rw [bne_iff_ne] at hd⊢;omega
  |false=>rw [bne_eq_false_iff_eq] at hd⊢;omega
 have h1':=h'.at_
 have hr':(c.mk1 u 1 (u.p.d != 0)).fr.length<=64:=hr
 rw [<-e1] at k1 k2 k147' hgu' h1' hr'
 rw [<-e2] at k2
 clear h'
 generalize c.mk1 u 1 (((u.p.d:Nat):Int) != 0)=d at *
 refine aK (ob0:=c.b) [] Tryz.func267 rfl rfl rfl rfl ?_
 exact Wo5
theorem bJZ(c:Dc)(m:Nat)(u:Us)(h1:m<c.fr.length)(h2:c.fr.getD m none=some u)(hr:c.fr.length<=64)(ht:u.ten<c.ls.length)(hl:eL (c.ls.getD u.ten l0)):
 aM Tryz.prog 97 c.b [.ptr 0 0 0,.int .i64 ((m+1:Nat):Int)] (.tup []) (c.acc m u.ten).b:=by
 have k147:=aBZ c m h1 hr
 have hgu:=jB h1 h2
 have hgl:=kD c.ls u.ten ht
 have k201:=bB9 (c.ls.getD u.ten l0) ((m+1:Nat):Int) hl
 have hset:∀x:Ls,(bW c.ls).set u.ten (aU 3 (c.ls.getD u.ten l0).c 0 x.c)=bW (c.ls.set u.ten x):=λx=>pR c.ls u.ten x
 have hb:(c.acc m u.ten).b=[.box [.sl 1 0 c.fl.length,.sl 2 0 c.fr.length,.lst 6 false (aQ c.zo),.lst 3 false (bC c.gr),.sl 3 0 c.ls.length,.sl 4 0 c.ck.length,.lst 5 false (aY c.pt)],.row 15 (bA c.fl),.row 9 (aV c.fr),.row 3 (bW (c.ls.set u.ten (mW (c.ls.getD u.ten l0) ((m+1:Nat):Int)).1)),.row 1 (aE c.ck)]:=by
  unfold Dc.b Dc.acc
  dsimp only
  rw [zA]
 rw [hb,<-hset]
 generalize(mW (c.ls.getD u.ten l0) ((m+1:Nat):Int)).2=er at *
 generalize(mW (c.ls.getD u.ten l0) ((m+1:Nat):Int)).1=l2 at *
 generalize c.ls.getD u.ten l0=l at *
 refine aK (ob0:=c.b) [] Tryz.func97 rfl rfl rfl rfl ?_
 exact Wo5
end Go.Proofs.YtmhapcbjjpadnaaGreat
namespace Go.Proofs.YtmhapcbjjpadnaaGreat
open Go Go.Sk Go.RowKit
def aMR(a b:Int):Int:=bif decide (a<b) then -1 else bif decide (b<a) then 1 else 0
theorem bAR(a b:Int):aM Tryz.prog 104 [] [.int .i64 a,.int .i64 b] (.int .i64 (aMR a b)) []:=by
 have k1:=aPC a
 have k2:=aPC b
 unfold aMR
 refine aK (ob0:= []) [] Tryz.func104 rfl rfl rfl rfl ?_
 refine Wy ?_
 refine fP (λh=>?_) (λh=>?_)
 ·rw [decide_eq_true h,cond_true]
  exact Wz
 ·rw [decide_eq_false h,cond_false]
  refine Wy ?_
  refine fP (λh2=>?_) (λh2=>?_)
  ·rw [decide_eq_true h2,cond_true]
   exact Wz
  ·rw [decide_eq_false h2,cond_false]
   exact Wz
def orI(x y:Int):Int:=bif x==0 then y else x
theorem bIW(x y:Int):aM Tryz.prog 328 [.row 1 (aE [x,y])] [.sl 0 0 2] (.int .i64 (orI x y)) [.row 1 (aE [x,y])]:=by
 have h0:(aE [x,y]).getD 0 []=[.int .i64 x]:=rfl
 have h1:(aE [x,y]).getD 1 []=[.int .i64 y]:=rfl
 have hl:(aE [x,y]).length=2:=rfl
 unfold orI
 generalize aE [x,y]=R at *
 refine aK (ob0:= [.row 1 R]) [] Tryz.func328 rfl rfl rfl rfl ?_
 refine Wy ?_
 refine Lp (λi:Nat=>i<=2/\(1<=i->x=0)/\(2<=i->y=0)) (λi=> [(8,.int .i64 (i:Int))]) (λi=> []) (λi=>2-i) 0 ⟨by omega,by omega,by omega⟩ ?_ ?_
 ·exact Vr [_]
 rintro i ⟨hi,hx,hy⟩
 have h3:i=0\/i=1\/i=2:=by omega
 rcases h3 with rfl |rfl |rfl
 ·clear h1
  refine Wy ?_
  refine aT6 (λh=>?_) (λh=>?_)
  ·rw [beq_eq_false_iff_ne.2 h]
   exact Wo
  ·refine Wy ?_
   refine Le 1 (hI:=⟨by omega,λ_=>h,by omega⟩) (hv:=?_)
   exact Vr [_]
 ·clear h0
  rw [beq_iff_eq.2 (hx (by omega)),cond_true]
  refine Wy ?_
  refine aT6 (λh=>?_) (λh=>?_)
  ·exact Wo
  ·refine Wy ?_
   refine Le 2 (hI:=⟨by omega,λ_=>hx (by omega),λ_=>h⟩) (hv:=?_)
   exact Vr [_]
 ·rw [beq_iff_eq.2 (hx (by omega)),cond_true,hy (by omega)]
  exact Wo
def aXP(a b:Pt):Int:=orI (aMR a.proc b.proc) (aMR a.page b.page)
theorem bID(a b:Pt):aM Tryz.prog 271 [] [.agg a.c,.agg b.c] (.int .i64 (aXP a b)) []:=by
 have k1:=bAR a.proc b.proc
 have k2:=bAR a.page b.page
 have k3:=bIW (aMR a.proc b.proc) (aMR a.page b.page)
 refine aK (ob0:= []) [] Tryz.func271 rfl rfl rfl rfl ?_
 exact Wz
theorem bIC(a:Pt):aM Tryz.prog 269 [] [.agg a.c] (.bool (eC a)) []:=by
 unfold eC
 refine aK (ob0:= []) [] Tryz.func269 rfl rfl rfl rfl ?_
 exact Wz
theorem aQW(a b:Pt):eB a b=decide (aXP a b<0):=by
 unfold eB aXP orI aMR
 by_cases h1:a.proc<b.proc
 ·rw [decide_eq_true h1];rfl
 ·rw [decide_eq_false h1,cond_false,cond_false]
  by_cases h2:b.proc<a.proc
  ·rw [decide_eq_true h2,show(a.proc==b.proc)=false from beq_eq_false_iff_ne.2 (by omega)];rfl
  ·rw [decide_eq_false h2,show(a.proc==b.proc)=true from beq_iff_eq.2 (by omega)]
   show decide (a.page<b.page)=decide ((bif decide (a.page<b.page) then(-1:Int) else bif decide (b.page<a.page) then 1 else 0)<0)
   by_cases h3:a.page<b.page
   ·rw [decide_eq_true h3];rfl
   ·rw [decide_eq_false h3,cond_false]
    cases decide (b.page<a.page)<;> rfl
theorem bI1(l:List Pt)(hl:l.length<=100000):aM Tryz.prog 232 [] [.lst 5 false (aY l)] (.bool (kQ l)) []:=by
 refine aK (ob0:= []) [] Tryz.func232 rfl rfl rfl rfl ?_
 refine Wy ?_
 refine Lp (λi:Nat=>i<=l.length/\bJ (uG l) i=true) (λi=> [(7,.int .i64 (i:Int))]) (λi=> []) (λi=>l.length-i) 0 ⟨zG _,rfl⟩ ?_ ?_
 ·exact Vr []
 rintro i ⟨hi,hn⟩
 refine Wy ?_
 refine fP (λb=>?_) (λb=>?_)
 ·have b:i<l.length:=by omega
  have hg:=iX l i b
  have hg2:=iX l (i-1) (by omega)
  have k269:=bIC (l.getD i p0)
  have k271:=bID (l.getD (i-1) p0) (l.getD i p0)
  have hb:uG l i=bif !eC (l.getD i p0) then true else bif decide (0< (i:Int)) then !eB (l.getD (i-1) p0) (l.getD i p0) else false:=rfl
  have hbad:uG l i=true->kQ l=false:=λh=>dV b h
  have hgood:uG l i=false->bJ (uG l) (i+1)=true:=λh=>by rw [bJ,hn,h];rfl
  rw [aQW] at hb
  generalize l.getD i p0=x at *
  generalize l.getD (i-1) p0=y at *
  generalize aXP y x=w at *
  cases hr:eC x with
  |false=>
   rw [hr] at k269 hb
   rw [hbad hb]
   by_cases h0:i=0
   ·subst h0
    refine Wx2 hg hg2 ?_
    exact Lz
   ·refine Wx2 hg hg2 ?_
    exact Lz
  |true=>
   rw [hr,Bool.not_true,cond_false] at hb
   rw [hr] at k269
   by_cases h0:i=0
   ·subst h0
    rw [decide_eq_false (show ¬(0:Int)< ((0:Nat):Int) by omega),cond_false] at hb
    refine Wx2 hg hg2 ?_
    refine Le 1 (hI:=⟨by omega,hgood hb⟩) (hv:=?_)
    exact Vr []
   ·rw [decide_eq_true (show(0:Int)< (i:Int) by omega),cond_true] at hb
    by_cases hw:w<0
    ·rw [decide_eq_true hw,Bool.not_true] at hb
     refine Wx2 hg hg2 ?_
     refine Le (i+1) (hI:=⟨by omega,hgood hb⟩) (hv:=?_)
     exact Vr []
    ·rw [decide_eq_false hw,Bool.not_false] at hb
     rw [hbad hb]
     refine Wx2 hg hg2 ?_
     exact Lz
 obtain rfl:i=l.length:=by omega
 have hn:kQ l=true:=hn
 rw [hn]
 exact Wz
end Go.Proofs.YtmhapcbjjpadnaaGreat
namespace Go.Proofs.YtmhapcbjjpadnaaGreat
open Go Go.Sk Go.RowKit
theorem bAJ(l:List Pt)(i:Nat)(h:i<l.length):(aY l).getD i []=(l[i]'h).c:=by rw [iX l i h,aK9 l i h]
theorem bJ9(l:List Pt)(t:Bool)(g:FuncId)(caps:List V)(p:Pt->Bool)(hg:fY Tryz.prog g)(hcap:caps.all cD=true)(hp:∀x∈l,aM Tryz.prog g [] (.agg x.c::caps) (.bool (p x)) [])(hl:(l.length:Int)<2^62):
 aM Tryz.prog 360 [] [.lst 5 t (aY l),.fn g caps] (.int .i64 (dR p l)) []:=by
 refine aF (ob0:= []) [] Tryz.func360 rfl rfl rfl rfl ?_
 generalize hk:dR p l=q
 refine Wk ?_
 rw [aS]
 refine⟨Nat,λi=>i<=l.length/\∀j (hj:j<i) (h:j<l.length),p l[j]=false,λi=>⟨[(0,⟨[],true,.lst 5 t (aY l)⟩),(1,⟨[],true,.fn g caps⟩),(4,⟨[],true,.int .i64 0⟩),(7,⟨[],true,.int .i64 (l.length:Int)⟩),(8,⟨[],true,.int .i64 (i:Int)⟩)],[],0⟩,λi=>l.length-i,⟨0,⟨by omega,λj hj=>by omega⟩,?_⟩,λi hI=>?_⟩
 ·refine bX [] rfl rfl ?_ rfl ?_ rfl ?_
  repeat' (first |exact trivial |rfl |exact .inl rfl |exact .inr rfl |exact id |exact(λh=>Bool.noConfusion h)|refine And.intro ?_ ?_)
  exact jU hcap
 obtain⟨hI1,hI2⟩:=hI
 refine Wk ?_
 refine aC (λh2=>?_) (λh2=>?_)<;> try simp only [zL,zJ,zQ,zN,Bool.not_not] at h2
 ·have h2:i<l.length:=by simp at h2;omega
  refine Wk ?_
  first |refine aB (⟨rfl,by omega,by rw [aS];omega⟩) ?_ |refine aH (λ_=>⟨rfl,by omega,by rw [aS];omega⟩) ?_ |refine⟨λ_=>⟨rfl,by omega,by rw [aS];omega⟩,?_⟩
  rw [zS,bAJ l i h2]
  refine Wk ?_
  refine⟨hg,.inl (aO5 hcap rfl (hp _ (zT h2)) rfl ?_)⟩
  refine Wk ?_
  refine aC (λh3=>?_) (λh3=>?_)<;> try simp only [zL,zJ,zQ,zN,Bool.not_not] at h3
  ·have :q=i:=by rw [<-hk];exact qJ _ l i h2 (λj hj=>hI2 j hj (by omega)) h3
   subst this
   refine Wk ?_
   try subst hk
   exact Lf
  refine Wk ?_
  rw [aR (n:=(i:Int)+1) (by omega) (by omega),show((i:Int)+1)=((i+1:Nat):Int) by omega]
  refine⟨i+1,⟨by omega,λj hj h=>?_⟩,?_,by show l.length- (i+1)<l.length-i;omega⟩
  ·by_cases e:j=i
   ·subst e;exact h3
   ·exact hI2 j (by omega) h
  refine bX [] rfl rfl ?_ rfl ?_ rfl ?_
  repeat' (first |exact trivial |rfl |exact .inl rfl |exact .inr rfl |exact id |exact(λh=>Bool.noConfusion h)|refine And.intro ?_ ?_)
  exact jU hcap
 have h2:i=l.length:=by simp at h2;omega
 have :q= -1:=by rw [<-hk];exact jV _ l λy hy=>by obtain⟨j,hj,rfl⟩:=zM hy;exact hI2 j (by omega) hj
 subst this
 refine Wk ?_
 try subst hk
 exact Lf
theorem bC5(x:Pt)(f:Int):aM Tryz.prog 317 [] [.agg x.c,.rp 1 [.int .i64 f] 0] (.bool (x.frame==f)) []:=by
 refine aF (ob0:= []) [] Tryz.func317 rfl rfl rfl rfl ?_
 refine Wk ?_
 try subst hk
 exact Lf
theorem call317:fY Tryz.prog 317:=⟨_,Tryz.func317,rfl,rfl⟩
def tZ(f:Int)(l:List Pt):List Pt:=l.filter (pF f)
structure aCH(l:List Pt)(x:Int)(j:Nat)(R:List Pt):Prop where
 le:j<=l.length
 len:R.length=l.length
 kept:R.take (tZ x (l.take j)).length=tZ x (l.take j)
 rest:R.drop j=l.drop j
theorem aDT {R l:List Pt} {j:Nat} (h:R.drop j=l.drop j):R.drop (j+1)=l.drop (j+1):=by
 rw [<-List.drop_drop,<-List.drop_drop,h]
theorem vH {l:List Pt} {j:Nat} {x:Int} (hj:j<l.length):tZ x (l.take (j+1))=tZ x (l.take j)++(bif pF x l[j] then [l[j]] else []):=by
 unfold tZ
 rw [zE hj,List.filter_append]
 cases h:pF x l[j] with
 |true=>rw [List.filter_cons_of_pos h];rfl
 |false=>rw [List.filter_cons_of_neg (by rw [h];decide)];rfl
theorem aOQ(l:List Pt)(x:Int)(j:Nat):(tZ x (l.take j)).length<=j:=by
 have :=zK (pF x) (l.take j)
 have :=List.length_take_le j l
 unfold tZ;omega
theorem aCH.getj {l:List Pt} {x:Int} {j:Nat} {R:List Pt} (h:aCH l x j R)(hj:j<l.length):R[j]'(by rw [h.len];exact hj)=l[j]:=by
 have h1:(R.drop j)[0]? =(l.drop j)[0]? :=by rw [h.rest]
 rw [zO,zO,Nat.add_zero,zH hj,zH (by rw [h.len];exact hj)] at h1
 exact Option.some.inj h1
theorem aCH.skip {l:List Pt} {x:Int} {j:Nat} {R:List Pt} (h:aCH l x j R)(hj:j<l.length)(hx:pF x l[j]=false):aCH l x (j+1) R:=by
 have e:=vH (x:=x) hj
 rw [hx,cond_false,zD] at e
 exact⟨by omega,h.len,by rw [e];exact h.kept,aDT h.rest⟩
theorem aCH.keep {l:List Pt} {x:Int} {j:Nat} {R:List Pt} (h:aCH l x j R)(hj:j<l.length)(hx:pF x l[j]=true):aCH l x (j+1) (R.set (tZ x (l.take j)).length l[j]):=by
 have e:=vH (x:=x) hj
 rw [hx,cond_true] at e
 have hle:=aOQ l x j
 have hk:=h.kept
 have hlen:=h.len
 first |refine aB (by omega) (bG (by rw [zA];exact h.len) (?_) ?_)|refine aB ⟨by omega,by rw [zA];exact h.len,?_⟩ ?_ |refine⟨by omega,by rw [zA];exact h.len,?_,?_⟩
 ·rw [e,zP,List.length_singleton]
  generalize tZ x (l.take j)=K at hk hle⊢
  rw [zE (by rw [zA];omega),List.getElem_set_self,List.take_set_of_le (Nat.le_refl _),hk]
 ·rw [List.drop_set_of_lt (by omega)]
  exact aDT h.rest
theorem aCH.start {l:List Pt} {x:Int} {n:Nat} (hn:n<l.length)(hx:pF x l[n]=false)(hb:∀j (hj:j<n),pF x (l[j]'(by omega))=true):aCH l x (n+1) l/\(tZ x (l.take (n+1))).length=n:=by
 have e:=vH (x:=x) hn
 rw [hx,cond_false,zD] at e
 have e2:tZ x (l.take n)=l.take n:=List.filter_eq_self.2 λy hm=>by
  obtain⟨j,hj,rfl⟩:=zM hm
  rw [zI] at hj
  rw [List.getElem_take]
  exact hb j (by omega)
 have e3:(l.take n).length=n:=by rw [zI];omega
 rw [e,e2]
 refine⟨⟨by omega,rfl,?_,rfl⟩,e3⟩
 rw [e,e2,e3]
theorem vR(x:Int)(p:Pt):pF x p= !(p.frame==x):=rfl
theorem bJ4(l:List Pt)(x:Int)(hl:l.length<=100000):aM Tryz.prog 349 [.row 5 (aY l),.box [.int .i64 x]] [.sl 0 0 l.length,.fn 317 [.ptr 1 0 0]] (.sl 0 0 (tZ x l).length)
 [.row 5 (aY (tZ x l++zC (l.length- (tZ x l).length) p0)),.box [.int .i64 x]]:=by
 generalize hk:tZ x l=q
 have p83:=bJ9 l false 317 [.rp 1 [.int .i64 x] 0] (λy=>y.frame==x) call317 rfl (λy _=>bC5 y x) (by omega)
 have ht0:((aY l).drop 0).take l.length=aY l:=dB (aS l)
 have key:aM Tryz.prog 360 [] [.lst 5 false (((aY l).drop 0).take l.length),.fn 317 [.rp 1 [.int .i64 x] 0]] (.int .i64 (dR (λy:Pt=>y.frame==x) l)) []:=by rw [ht0];exact p83
 have hge:=(aHV (λy:Pt=>y.frame==x) l)
 refine aK (ob0:= [.row 5 (aY l),.box [.int .i64 x]]) [] Tryz.func349 rfl rfl rfl rfl ?_
 refine Wy ?_
 refine .inl ⟨_,λ_=>⟨?_,key⟩,.inr rfl,?_⟩
 ·intro v hv
  have hv:v∈ [V.sl 0 0 l.length,V.fn 317 [V.ptr 1 0 0]]:=hv
  rcases List.mem_cons.1 hv with rfl |hv
  ·show 0+l.length<=(aY l).length
   rw [aS];omega
  ·obtain rfl:=List.mem_singleton.1 hv
   intro c hc
   obtain rfl:=List.mem_singleton.1 hc
   exact⟨rfl,rfl⟩
 refine Wy ?_
 refine bD2 (λh1=>?_) (λh1=>?_)
 ·have hno:tZ x l=l:=List.filter_eq_self.2 λy hy=>by
   have :=(sC (λy:Pt=>y.frame==x) l).1 (by omega) y hy
   rw [vR,this];rfl
  rw [hno] at hk
  subst hk
  rw [Nat.sub_self,List.replicate_zero,zD]
  exact Wo2
 obtain⟨n,hn,hin,hx,hb⟩:=oY (λy:Pt=>y.frame==x) l (by omega)
 rw [hin]
 obtain⟨hD,hDl⟩:=aCH.start (x:=x) hn (by rw [vR,hx];rfl) (λj hj=>by rw [vR,hb j hj];rfl)
 clear h1 key p83 ht0
 refine Wy ?_
 refine Lp (α:=Nat×List Pt) (λp=>aCH l x p.1 p.2) (λp=> [(5,.int .i64 ((tZ x (l.take p.1)).length:Int)),(6,.int .i64 (p.1:Int))]) (λp=> [(0,.row 5 (aY p.2))]) (λp=>l.length-p.1) (n+1,l) hD ?_ ?_
 ·simp only [hDl]
  exact Vr [_,_]
 rintro ⟨j,R⟩ hp
 have hle:=hp.le
 have hlen:=hp.len
 have hwl:=aOQ l x j
 dsimp only at *
 refine Wy ?_
 refine fP (λh2=>?_) (λh2=>?_)
 ·have h2:j<l.length:=by omega
  have hRj:=hp.getj h2
  have hg:=bAJ R j (by omega)
  rw [hRj] at hg
  have hskip:=λh=>hp.skip h2 h
  have hkeep:=λh=>hp.keep h2 h
  have ws:=vH (x:=x) h2
  have k317:=bC5 l[j] x
  have hne:=vR x l[j]
  have hrs:∀(K:Nat) (z:Pt),aY (R.set K z)=(aY R).set K z.c:=λK z=>(aGV R K z).symm
  generalize l[j]=z at *
  refine Wy ?_
  refine⟨call317,.inl ⟨.bool (z.frame==x),λ_=>⟨?_,k317⟩,.inr rfl,?_⟩⟩
  ·intro v hv
   have hv:v∈ [V.agg z.c,V.ptr 1 0 0]:=hv
   rcases List.mem_cons.1 hv with rfl |hv
   ·exact aPK (show aRV (V.agg z.c)=true from rfl)
   ·obtain rfl:=List.mem_singleton.1 hv
    exact⟨rfl,rfl⟩
  refine Wy ?_
  refine aC (λh3=>?_) (λh3=>?_)
  ·have hn:pF x z=true:=h3
   have hkeep:=hkeep hn
   rw [hn,cond_true] at ws
   generalize tZ x (l.take j)=K at *
   refine Wy ?_
   refine Le (j+1,R.set K.length z) (hI:=hkeep) (hv:=?_)
   simp only [ws,hrs]
   exact Vr [_,_]
  ·have hn:pF x z=false:=h3
   have hskip:=hskip hn
   rw [hn,cond_false,zD] at ws
   refine Wy ?_
   refine Le (j+1,R) (hI:=hskip) (hv:=?_)
   simp only [ws]
   exact Vr [_,_]
 have h2:j=l.length:=by omega
 subst h2
 have hkept:=hp.kept
 rw [List.take_length,hk] at hkept hwl⊢
 refine Wy ?_
 refine rE.mk ?_
 conv=>whnf
 refine⟨[some 0,some 1],?_,rfl,?_,rfl,?_⟩
 ·have e:List.take (0+((q.length:Int)).toNat) (aY R)++zC (l.length-q.length) p0.c++List.drop (0+(q.length:Int).toNat+(l.length-q.length)) (aY R)=aY (q++zC (l.length-q.length) p0):=by
   rw [zS,Nat.zero_add,List.drop_of_length_le (by rw [aS];omega),zD]
   unfold aY
   rw [<-List.map_take,hkept,List.map_append,List.map_replicate]
  rw [<-e]
  exact Cz
 ·exact Cz
 ·exact Cz
theorem aYA(l:List Pt)(x:Int):(tZ x l).length<=l.length:=zK _ _
theorem bIT(l:List Pt)(x:Int)(hl:l.length<=100000)(hc:kQ l=true):aM Tryz.prog 316 [.box [.int .i64 x]] [.lst 5 false (aY l),.fn 317 [.ptr 0 0 0]] (.lst 5 false (aY (tZ x l))) [.box [.int .i64 x]]:=by
 have k190:=aUR (aY l) false (by rw [aS];omega)
 have k232:=bI1 l hl
 have k349:=bJ4 l x hl
 have hfl:=aYA l x
 rw [aS] at k190
 rw [hc] at k232
 have e:List.take (tZ x l).length (List.drop 0 (aY (tZ x l++zC (l.length- (tZ x l).length) p0)))=aY (tZ x l):=by
  unfold aY
  rw [List.drop_zero,List.map_append,List.take_append_of_le_length (by rw [List.length_map];omega),List.take_of_length_le (by rw [List.length_map];omega)]
 have e2:0+(tZ x l).length<=(aY (tZ x l++zC (l.length- (tZ x l).length) p0)).length:=by rw [aS,zP];omega
 generalize aY (tZ x l++zC (l.length- (tZ x l).length) p0)=RR at *
 generalize hq:tZ x l=q at *
 refine aK (ob0:= [.box [.int .i64 x]]) [] Tryz.func316 rfl rfl rfl rfl ?_
 refine Wy ?_
 rw [<-e]
 refine rE.mk ?_
 conv=>whnf
 refine⟨[some 0],?_,rfl,?_,rfl,?_⟩
 all_goals exact Cz
theorem bI2(l:List Pt)(x:Int)(hl:l.length<=100000)(hc:kQ l=true):aM Tryz.prog 244 [] [.lst 5 false (aY l),.int .i64 x] (.lst 5 false (aY (qW l x))) []:=by
 have k316:=bIT l x hl hc
 have e:qW l x=tZ x l:=by unfold qW;rw [hc];rfl
 rw [e]
 generalize tZ x l=q at *
 refine aK (ob0:= []) [] Tryz.func244 rfl rfl rfl rfl ?_
 exact Wz
end Go.Proofs.YtmhapcbjjpadnaaGreat
namespace Go.Proofs.YtmhapcbjjpadnaaGreat
open Go Go.Sk Go.RowKit
theorem bE3(fr:List (Option Us))(m:Nat)(hm:m<fr.length)(hr:fr.length<=64)(Z G P R1 R3 R4:List (List V))(nf nl nk:Nat):
 aM Tryz.prog 147 [.box [.sl 1 0 nf,.sl 2 0 fr.length,.lst 6 false Z,.lst 3 false G,.sl 3 0 nl,.sl 4 0 nk,.lst 5 false P],.row 15 R1,.row 9 (aV fr),.row 3 R3,.row 1 R4] [.ptr 0 0 0,.int .i64 ((m+1:Nat):Int)] (.ptr 2 m 0)
  [.box [.sl 1 0 nf,.sl 2 0 fr.length,.lst 6 false Z,.lst 3 false G,.sl 3 0 nl,.sl 4 0 nk,.lst 5 false P],.row 15 R1,.row 9 (aV fr),.row 3 R3,.row 1 R4]:=by
 refine aK (ob0:= [.box [.sl 1 0 nf,.sl 2 0 fr.length,.lst 6 false Z,.lst 3 false G,.sl 3 0 nl,.sl 4 0 nk,.lst 5 false P],.row 15 R1,.row 9 (aV fr),.row 3 R3,.row 1 R4]) [] Tryz.func147 rfl rfl rfl rfl ?_
 exact Wo5
def Dc.goneP(c:Dc)(n:Nat)(u:Us)(v:Int):Dc:=
 ⟨c.fl.set u.file (eP (c.fl.getD u.file aP) (cI (c.fl.getD u.file aP).E u.page (v,0))),c.fr.set n none,(eG (c.zo.map gF) c.zo ((n+1:Nat):Int)).1,(gB c.gr u.ten).1,c.ls.set u.ten (mV (c.ls.getD u.ten l0) ((n+1:Nat):Int)).1,c.ck,qW c.pt ((n+1:Nat):Int)⟩
theorem bHM(c:Dc)(h:Ok c)(m:Nat)(u:Us)(h1:m<c.fr.length)(h2:c.fr.getD m none=some u)(v:Int):
 aM Tryz.prog 153 c.b [.ptr 0 0 0,.int .i64 ((m+1:Nat):Int),.int .i64 v] (.tup []) (c.goneP m u v).b:=by
 have hr:=h.nr
 have hu:=h.use m u h1 h2
 have hg:=h.good h1 h2
 have hf:=hu.file
 have ht:u.ten<c.ls.length:=by rw [h.nl];exact hu.ten
 have k147:=aBZ c m h1 hr
 have k156:=bAY c m u h1 h2 hf hr
 have hgu:=jB h1 h2
 have hgf:=iS hf
 have hgl:=kD c.ls u.ten ht
 have kf:=h.file _ hf
 have hE':bH (cI (c.fl.getD u.file aP).E u.page (v,0)):=kf.E.set (Nat.zero_lt_succ _) (λ_=>rfl)
 have k148:=aUI kf.E kf.sup u.page hg.page v
 have k244:=bI2 c.pt ((m+1:Nat):Int) h.ptl h.pt
 have k245:=bBM (c.ls.getD u.ten l0) ((m+1:Nat):Int) (h.smL _)
 have k246:=bI3 c.gr u.ten hu.ten h.gr
 have k247:=bBN c.zo false ((m+1:Nat):Int) h.smZ
 have hput:=nN c.fl u.file _ hf kf.E hE'
 rw [eJ c.fl u.file hf] at hput
 have hsetl:∀x:Ls,(bW c.ls).set u.ten (aU 3 (c.ls.getD u.ten l0).c 0 x.c)=bW (c.ls.set u.ten x):=λx=>pR c.ls u.ten x
 have hsetu:(aV c.fr).set m (aU 9 u.c 0 fre.c)=aV (c.fr.set m none):=by
  have :aU 9 u.c 0 fre.c=fre.c:=rfl
  rw [this];unfold aV;rw [List.map_set];rfl
 obtain⟨k0,k1,k2,k3,hfc,hcan⟩:=Df.cells kf.E
 obtain⟨q0,q1,q2,q3,hcan'⟩:=bB hE'
 rw [hfc] at hgf hput
 rw [hcan'] at hput
 rw [hcan,hcan'] at k148
 have hb:(c.goneP m u v).b=[.box [.sl 1 0 c.fl.length,.sl 2 0 c.fr.length,.lst 6 false (aQ (eG (c.zo.map gF) c.zo ((m+1:Nat):Int)).1),.lst 3 false (bC (gB c.gr u.ten).1),.sl 3 0 c.ls.length,.sl 4 0 c.ck.length,.lst 5 false (aY (qW c.pt ((m+1:Nat):Int)))],.row 15 (bA (c.fl.set u.file (eP (c.fl.getD u.file aP) (cI (c.fl.getD u.file aP).E u.page (v,0))))),.row 9 (aV (c.fr.set m none)),.row 3 (bW (c.ls.set u.ten (mV (c.ls.getD u.ten l0) ((m+1:Nat):Int)).1)),.row 1 (aE c.ck)]:=by
  unfold Dc.b Dc.goneP
  dsimp only
  rw [zA,zA,zA]
 rw [hb,<-hput,<-hsetu,<-hsetl]
 generalize(eG (c.zo.map gF) c.zo ((m+1:Nat):Int)).1=z2 at *
 generalize(eG (c.zo.map gF) c.zo ((m+1:Nat):Int)).2=ze at *
 generalize(gB c.gr u.ten).1=g2 at *
 generalize(gB c.gr u.ten).2=ge at *
 generalize qW c.pt ((m+1:Nat):Int)=p2 at *
 generalize(mV (c.ls.getD u.ten l0) ((m+1:Nat):Int)).2=le at *
 generalize(mV (c.ls.getD u.ten l0) ((m+1:Nat):Int)).1=l2 at *
 have k147':=bE3 c.fr m h1 hr (aQ z2) (bC g2) (aY p2) (bA (c.fl.set u.file (eP (c.fl.getD u.file aP) (cI (c.fl.getD u.file aP).E u.page (v,0))))) (bW (c.ls.set u.ten l2)) (aE c.ck) c.fl.length c.ls.length c.ck.length
 rw [<-hput,<-hsetl] at k147'
 clear hb hput hsetl hsetu
 refine aK (ob0:=c.b) [] Tryz.func153 rfl rfl rfl rfl ?_
 exact Wo5
end Go.Proofs.YtmhapcbjjpadnaaGreat
namespace Go.Proofs.YtmhapcbjjpadnaaGreat
open Go Go.Sk Go.RowKit
theorem bHO(p:Pg)(h:dI p)(off n:Nat)(hr:off+n<=16)(hn:kX p off n false=0):aM Tryz.prog 165 [] [.agg p.c,.int .i64 (off:Int),.int .i64 (n:Int)] (.tup [.str (p.b.extract off (off+n)),.int .i64 0]) []:=by
 have k265:=bBR p h off n hr false hn
 have hs:=h.size
 refine aK (ob0:= []) [] Tryz.func165 rfl rfl rfl rfl ?_
 exact Wz
end Go.Proofs.YtmhapcbjjpadnaaGreat
