/- Caches. -/
import Derived.Test.YtmhapcbjjpadnaaGreatG4m
set_option linter.unusedSimpArgs false
set_option linter.unusedVariables false
open Bool renaming cond_false_right→zA,not_eq_true'→zD,cond_true_left→zE,not_eq_false'→zG,not_not→zI,and_eq_true→zR
open Int renaming toNat_natCast→zH
open List renaming take_succ_eq_append_getElem→zC,length_append→zF,length_set→zJ,replicate→zK,getElem?_eq_getElem→zL,take_length→zM,length_singleton→zN,filter_append→zO,getElem?_drop→zP,length_take→zQ
set_option linter.constructorNameAsVariable false
set_option maxRecDepth 40000
namespace Go.Proofs.YtmhapcbjjpadnaaGreat
open Go Go.Sk Go.RowKit
def wo(l:List Int)(x:Int):List Int:=l.filter (fun y=>y != x)
def dM(f:Int):Bool:=decide (1≤f)&&decide (f≤64)
theorem bAD(f:Int):aQ Tryz.prog 309 [] [.int .i64 f] (.bool (dM f)) []:=by
 refine aF (ob0:= []) [] Tryz.func309 rfl rfl rfl rfl ?_
 refine Wk ?_
 refine⟨[],trivial,rfl,trivial,rfl,?_⟩
 try subst hk
 repeat' (first |exact trivial |rfl |exact .inl rfl |exact .inr rfl |exact id |exact(fun h=>Bool.noConfusion h)|refine And.intro ?_ ?_)
 unfold dM;cases decide (1≤f)<;> rfl
theorem bAJ(y x:Int):aQ Tryz.prog 338 [] [.int .i64 y,.rp 1 [.int .i64 x] 0] (.bool (y==x)) []:=by
 refine aF (ob0:= []) [] Tryz.func338 rfl rfl rfl rfl ?_
 refine Wk ?_
 try subst hk
 exact Lf
theorem call83:eP Tryz.prog 338:=⟨_,Tryz.func338,rfl,rfl⟩
end Go.Proofs.YtmhapcbjjpadnaaGreat
set_option maxRecDepth 40000
namespace Go.Proofs.YtmhapcbjjpadnaaGreat
open Go Go.Sk Go.RowKit
theorem aMC(l:List Int)(x:Int):(wo l x).length≤l.length:=List.length_filter_le _ _
theorem fE {l:List Int} {x y:Int} :y∈wo l x↔y∈l∧y≠x:=by simp [wo]
theorem aOR {l:List Int} {x:Int} {i:Nat} (h:i<l.length)(hx:l[i]≠x):wo (l.take (i+1)) x=wo (l.take i) x++ [l[i]]:=by
 rw [zC h,wo,wo,zO]
 simp [hx]
theorem aHC {l:List Int} {x:Int} {i:Nat} (h:i<l.length)(hx:l[i]=x):wo (l.take (i+1)) x=wo (l.take i) x:=by
 rw [zC h,wo,wo,zO]
 simp [hx]
theorem rX {l:List Int} {x:Int} (h:x∉l):wo l x=l:=by
 rw [wo,List.filter_eq_self]
 intro y hy
 simp only [bne_iff_ne]
 rintro rfl;exact h hy
theorem aB4(l:List Int)(x:Int)(i:Nat):(wo (l.take i) x).length≤i:=Nat.le_trans (aMC _ _) (by simp;omega)
end Go.Proofs.YtmhapcbjjpadnaaGreat
set_option maxRecDepth 40000
namespace Go.Proofs.YtmhapcbjjpadnaaGreat
open Go Go.Sk Go.RowKit
structure vE(l:List Int)(x:Int)(j:Nat)(R:List Int):Prop where
 le:j≤l.length
 len:R.length=l.length
 kept:R.take (wo (l.take j) x).length=wo (l.take j) x
 rest:R.drop j=l.drop j
theorem vE.getj {l:List Int} {x:Int} {j:Nat} {R:List Int} (h:vE l x j R)(hj:j<l.length):R[j]'(by rw [h.len];exact hj)=l[j]:=by
 have h1:(R.drop j)[0]? =(l.drop j)[0]? :=by rw [h.rest]
 rw [zP,zP,Nat.add_zero,zL hj,zL (by rw [h.len];exact hj)] at h1
 exact Option.some.inj h1
theorem aEN {R l:List Int} {j:Nat} (h:R.drop j=l.drop j):R.drop (j+1)=l.drop (j+1):=by
 rw [←List.drop_drop,←List.drop_drop,h]
theorem vE.skip {l:List Int} {x:Int} {j:Nat} {R:List Int} (h:vE l x j R)(hj:j<l.length)(hx:l[j]=x):vE l x (j+1) R:=by
 have e:=aHC (x:=x) hj hx
 exact⟨by omega,h.len,by rw [e];exact h.kept,aEN h.rest⟩
theorem vE.keep {l:List Int} {x:Int} {j:Nat} {R:List Int} (h:vE l x j R)(hj:j<l.length)(hx:l[j]≠x):vE l x (j+1) (R.set (wo (l.take j) x).length l[j]):=by
 have e:=aOR (x:=x) hj hx
 have hle:=aB4 l x j
 have hk:=h.kept
 have hlen:=h.len
 first |refine aE (by omega) (bZ (by rw [zJ];exact h.len) (?_) ?_)|refine aE ⟨by omega,by rw [zJ];exact h.len,?_⟩ ?_ |refine⟨by omega,by rw [zJ];exact h.len,?_,?_⟩
 ·rw [e,zF,zN]
  generalize wo (l.take j) x=K at hk hle⊢
  rw [zC (by rw [zJ];omega),List.getElem_set_self,List.take_set_of_le (Nat.le_refl _),hk]
 ·rw [List.drop_set_of_lt (by omega)]
  exact aEN h.rest
theorem vE.start {l:List Int} {x:Int} {n:Nat} (hn:n<l.length)(hx:l[n]=x)(hb:∀j (hj:j<n),l[j]'(by omega)≠x):vE l x (n+1) l∧(wo (l.take (n+1)) x).length=n:=by
 have e:=aHC (x:=x) hn hx
 have e2:wo (l.take n) x=l.take n:=rX fun hm=>by
  obtain⟨j,hj,he⟩:=List.getElem_of_mem hm
  rw [zQ] at hj
  rw [List.getElem_take] at he
  exact hb j (by omega) he
 have e3:(l.take n).length=n:=by rw [zQ];omega
 rw [e,e2]
 refine⟨⟨by omega,rfl,?_,rfl⟩,e3⟩
 rw [e,e2,e3]
theorem bK7(k:Nat):zK k [V.int .i64 0]=aJ (zK k 0):=by rw [aJ,List.map_replicate]
set_option maxRecDepth 20000 in
set_option maxHeartbeats 1000000 in
theorem bG7(l:List Int)(x:Int)(hl:l.length≤100000):aQ Tryz.prog 337 [.row 1 (aJ l),.box [.int .i64 x]] [.sl 0 0 l.length,.fn 338 [.ptr 1 0 0]] (.sl 0 0 (wo l x).length)
 [.row 1 (aJ (wo l x++zK (l.length- (wo l x).length) 0)),.box [.int .i64 x]]:=by
 refine aF (ob0:= [.row 1 (aJ l),.box [.int .i64 x]]) [] Tryz.func337 rfl rfl rfl rfl ?_
 generalize hk:wo l x=q
 have p83:aQ Tryz.prog 358 [] [.lst 1 false (aJ l),.fn 338 [.rp 1 [.int .i64 x] 0]] (.int .i64 (dW (fun y=>y==x) l)) []:=bGG l false 338 [.rp 1 [.int .i64 x] 0] (fun y=>y==x) call83 rfl (fun y _=>bAJ y x) (by omega)
 have ht0:((aJ l).drop 0).take l.length=aJ l:=eF (aB l)
 have key:aQ Tryz.prog 358 [] [.lst 1 false (((aJ l).drop 0).take l.length),.fn 338 [.rp 1 [.int .i64 x] 0]] (.int .i64 (dW (fun y=>y==x) l)) []:=by rw [ht0];exact p83
 refine Wk ?_
 refine .inl ⟨_,fun _=>⟨?_,key⟩,.inr rfl,?_⟩
 ·intro v hv
  have hv:v∈ [V.sl 0 0 l.length,V.fn 338 [V.ptr 1 0 0]]:=hv
  rcases List.mem_cons.1 hv with rfl |hv
  ·show 0+l.length≤(aJ l).length
   rw [aB];omega
  ·obtain rfl:=List.mem_singleton.1 hv
   intro c hc
   obtain rfl:=List.mem_singleton.1 hc
   exact⟨rfl,rfl⟩
 refine Wk ?_
 refine aI (fun h1=>?_) (fun h1=>?_)<;> try simp only [zE,zA,zD,zG,zI] at h1
 ·have h1:dW (fun y=>y==x) l= -1:=by simpa using h1
  have hno:x∉l:=fun hm=>by
   have :=(qM (fun y=>y==x) l).1 (by omega) x hm
   simp at this
  rw [rX hno] at hk
  subst hk
  refine Wk ?_
  try subst hk
  refine⟨[some 0,some 1],?_,rfl,?_,rfl,?_⟩
  all_goals repeat' (first |exact trivial |rfl |exact .inl rfl |exact .inr rfl |exact id |exact(fun h=>Bool.noConfusion h)|refine And.intro ?_ ?_)
  rw [Nat.sub_self,List.replicate_zero,List.append_nil]
 have h1:dW (fun y=>y==x) l≠-1:=by simpa using h1
 have hge:=(aGD (fun y=>y==x) l).1
 obtain⟨n,hn,hin,hx,hb⟩:=nM (fun y=>y==x) l (by omega)
 rw [hin]
 have hx:l[n]=x:=by simpa using hx
 obtain⟨hD,hDl⟩:=vE.start hn hx fun j hj=>by simpa using hb j hj
 have hn1:IntKind.i64.wrap ((n:Int)+1)=((n+1:Nat):Int):=by rw [aY (by omega) (by omega)];omega
 refine Wk ?_
 rw [hn1]
 refine⟨Nat×List Int,fun p=>vE l x p.1 p.2,fun p=>⟨[(0,⟨[],true,.sl 0 0 l.length⟩),(1,⟨[],true,.fn 338 [.ptr 1 0 0]⟩),(5,⟨[],true,.int .i64 ((wo (l.take p.1) x).length:Int)⟩),(6,⟨[],true,.int .i64 (p.1:Int)⟩)],[(0,.row 1 (aJ p.2)),(1,.box [.int .i64 x])],2⟩,fun p=>l.length-p.1,⟨(n+1,l),hD,?_⟩,fun p hp=>?_⟩
 ·refine cO [some 0,some 1] rfl rfl ?_ rfl ?_ rfl ?_
  repeat' (first |exact trivial |rfl |exact .inl rfl |exact .inr rfl |exact id |exact(fun h=>Bool.noConfusion h)|refine And.intro ?_ ?_)
  show(n:Int)=((wo (l.take (n+1)) x).length:Int)
  rw [hDl]
 obtain⟨j,R⟩:=p
 have hp:vE l x j R:=hp
 dsimp only
 have hle:=hp.le
 have hlen:=hp.len
 have hwl:=aB4 l x j
 refine Wk ?_
 refine aI (fun h2=>?_) (fun h2=>?_)<;> try simp only [zE,zA,zD,zG,zI] at h2
 ·have h2:j<l.length:=by simp at h2;omega
  have hj1:IntKind.i64.wrap ((j:Int)+1)=((j+1:Nat):Int):=by rw [aY (by omega) (by omega)];omega
  have hRj:=hp.getj h2
  have hskip:=fun h=>hp.skip h2 h
  have hkeep:=fun h=>hp.keep h2 h
  have ws:=aHC (x:=x) h2
  have wk:=aOR (x:=x) h2
  refine Wk ?_
  first |refine aE (⟨by omega,by omega⟩) ?_ |refine aM (fun _=>⟨by omega,by omega⟩) ?_ |refine⟨fun _=>⟨by omega,by omega⟩,?_⟩
  refine Wk ?_
  first |refine aE (by rw [aB,zH];omega) ?_ |refine aM (fun _=>by rw [aB,zH];omega) ?_ |refine⟨fun _=>by rw [aB,zH];omega,?_⟩
  refine Wk ?_
  rw [Nat.zero_add,zH,dJ R j (by omega),hRj]
  refine Wk ?_
  refine⟨call83,.inl ⟨.bool (l[j]==x),fun _=>⟨?_,bAJ l[j] x⟩,.inr rfl,?_⟩⟩
  ·intro v hv
   have hv:v∈ [V.int .i64 l[j],V.ptr 1 0 0]:=hv
   rcases List.mem_cons.1 hv with rfl |hv
   ·exact trivial
   ·obtain rfl:=List.mem_singleton.1 hv
    exact⟨rfl,rfl⟩
  refine Wk ?_
  refine aI (fun h3=>?_) (fun h3=>?_)<;> try simp only [zE,zA,zD,zG,zI] at h3
  ·have h3:l[j]≠x:=by simpa using h3
   have hkeep:=hkeep h3
   have wk:=wk h3
   generalize wo (l.take j) x=K at hkeep wk hwl⊢
   refine Wk ?_
   first |refine aE (⟨by omega,by omega⟩) ?_ |refine aM (fun _=>⟨by omega,by omega⟩) ?_ |refine⟨fun _=>⟨by omega,by omega⟩,?_⟩
   refine Wk ?_
   first |refine aE (by rw [aB,zH];omega) ?_ |refine⟨by rw [aB,zH];omega,?_⟩
   refine Wk ?_
   rw [hj1,aY (n:=(K.length:Int)+1) (by omega) (by omega)]
   refine⟨(j+1,R.set K.length l[j]),hkeep,?_,by show l.length- (j+1)<l.length-j;omega⟩
   refine cO [some 0,some 1] rfl rfl ?_ rfl ?_ rfl ?_
   repeat' (first |exact trivial |rfl |exact .inl rfl |exact .inr rfl |exact id |exact(fun h=>Bool.noConfusion h)|refine And.intro ?_ ?_)
   ·rw [Nat.zero_add,zH,dJ R K.length (by omega),aJ,aJ,List.map_set]
    rfl
   ·show(K.length:Int)+1=((wo (l.take (j+1)) x).length:Int)
    rw [wk,zF,zN];omega
  have h3:l[j]=x:=by simpa using h3
  have hskip:=hskip h3
  have ws:=ws h3
  refine Wk ?_
  rw [hj1]
  refine⟨(j+1,R),hskip,?_,by show l.length- (j+1)<l.length-j;omega⟩
  dsimp only
  rw [ws]
  exact Vw [some 0,some 1]
 have h2:j=l.length:=by simp at h2;omega
 subst h2
 have hkept:=hp.kept
 rw [zM,hk] at hkept hwl⊢
 refine Wk ?_
 first |refine aE (⟨by omega,by omega,by omega⟩) ?_ |refine aM (fun _=>⟨by omega,by omega,by omega⟩) ?_ |refine⟨fun _=>⟨by omega,by omega,by omega⟩,?_⟩
 refine Wk ?_
 have e1:((l.length:Int)).toNat- ((q.length:Int)).toNat=l.length-q.length:=by omega
 first |refine aE (by rw [aB];omega) ?_ |refine⟨by rw [aB];omega,?_⟩
 refine Wk ?_
 first |refine aE (⟨by omega,by omega,by omega⟩) ?_ |refine aM (fun _=>⟨by omega,by omega,by omega⟩) ?_ |refine⟨fun _=>⟨by omega,by omega,by omega⟩,?_⟩
 refine Wk ?_
 try subst hk
 refine⟨[some 0,some 1],?_,rfl,?_,rfl,?_⟩
 all_goals repeat' (first |exact trivial |rfl |exact .inl rfl |exact .inr rfl |exact id |exact(fun h=>Bool.noConfusion h)|refine And.intro ?_ ?_)
 have e2:(0+((wo l x).length:Int).toNat)=(wo l x).length:=by omega
 rw [e1,e2,bK7,aJ,aJ,aJ,List.drop_of_length_le (by rw [List.length_map];omega),List.append_nil,List.map_append,←List.map_take,hkept]
set_option maxRecDepth 20000 in
theorem aF8(l:List Int)(t:Bool)(x:Int)(hl:l.length≤100000):aQ Tryz.prog 288 [] [.lst 1 t (aJ l),.int .i64 x] (.lst 1 false (aJ (wo l x))) []:=by
 refine aF (ob0:= []) [] Tryz.func288 rfl rfl rfl rfl ?_
 generalize hk:wo l x=q
 have hwl:=aMC l x
 refine Wk ?_
 refine .inr ⟨fun _=>⟨[],_,_,_,sM (aJ l) t (by rw [aB];omega),trivial,rfl,rfl,rfl,?_⟩,(by intro h;cases h)⟩
 rw [aB]
 refine Wk ?_
 refine .inr ⟨fun _=>⟨[1,0],_,_,_,bG7 l x hl,⟨rfl,rfl,trivial⟩,rfl,rfl,rfl,?_⟩,(by intro h;cases h)⟩
 rw [hk] at hwl⊢
 refine Wk ?_
 refine⟨[],trivial,rfl,trivial,rfl,?_⟩
 try subst hk
 repeat' (first |exact trivial |rfl |exact .inl rfl |exact .inr rfl |exact id |exact(fun h=>Bool.noConfusion h)|refine And.intro ?_ ?_)
 ·show 0+(wo l x).length≤_
  rw [aB,zF];omega
 ·show((aJ (wo l x++zK (l.length- (wo l x).length) 0)).drop 0).take (wo l x).length=aJ (wo l x)
  rw [List.drop_zero,aJ,←List.map_take,List.take_append_of_le_length (Nat.le_refl _),zM]
  rfl
set_option maxRecDepth 20000 in
theorem aTN(l:List Int)(t:Bool)(x:Int)(hl:l.length≤100000):aQ Tryz.prog 241 [] [.lst 1 t (aJ l),.int .i64 x] (.lst 1 false (aJ (x::wo l x))) []:=by
 have hwl:=aMC l x
 refine aF (ob0:= []) [] Tryz.func241 rfl rfl rfl rfl ?_
 refine dF (aF8 l t x hl) ?_
 rw [aB]
 first |refine bZ (by show((1+(wo l x).length:Nat):Int)≤_;omega) (by show(1+(wo l x).length)*8≤_;omega) ?_ |refine aE ⟨by show((1+(wo l x).length:Nat):Int)≤_;omega,by show(1+(wo l x).length)*8≤_;omega⟩ ?_ |refine⟨by show((1+(wo l x).length:Nat):Int)≤_;omega,by show(1+(wo l x).length)*8≤_;omega,?_⟩
 refine Wk ?_
 refine⟨[],trivial,rfl,trivial,rfl,?_⟩
 try subst hk
 repeat' (first |exact trivial |rfl |exact .inl rfl |exact .inr rfl |exact id |exact(fun h=>Bool.noConfusion h)|refine And.intro ?_ ?_)
 ·show 0+(1+(wo l x).length)≤([[V.int .i64 x]]++aJ (wo l x)).length
  rw [zF,aB];simp
 ·show List.take (1+(wo l x).length) (List.drop 0 ([[V.int .i64 x]]++aJ (wo l x)))=aJ (x::wo l x)
  exact eF (by rw [zF,aB];simp)
end Go.Proofs.YtmhapcbjjpadnaaGreat
set_option maxRecDepth 40000
namespace Go.Proofs.YtmhapcbjjpadnaaGreat
open Go Go.Sk Go.RowKit
structure Ls where
 A:List Int
 I:List Int
 R:List Int
def Ls.c(l:Ls):List V:= [.lst 1 false (aJ l.A),.lst 1 false (aJ l.I),.lst 1 false (aJ l.R)]
structure jD(l:Ls):Prop where
 a:l.A.length≤10000
 i:l.I.length≤10000
 r:l.R.length≤10000
set_option maxRecDepth 20000 in
theorem aTK(l:Ls)(hl:jD l):aQ Tryz.prog 238 [] [.agg l.c] (.agg l.c) []:=by
 have h1:=hl.a;have h2:=hl.i;have h3:=hl.r
 refine aF (ob0:= []) [] Tryz.func238 rfl rfl rfl rfl ?_
 refine Wk ?_
 refine .inr ⟨fun _=>⟨[],_,_,_,sM (aJ l.A) false (by rw [aB];omega),trivial,rfl,rfl,rfl,?_⟩,(by intro h;cases h)⟩
 rw [aB]
 refine Wk ?_
 refine .inr ⟨fun _=>⟨[],_,_,_,sM (aJ l.I) false (by rw [aB];omega),trivial,rfl,rfl,rfl,?_⟩,(by intro h;cases h)⟩
 rw [aB]
 refine Wk ?_
 refine .inr ⟨fun _=>⟨[],_,_,_,sM (aJ l.R) false (by rw [aB];omega),trivial,rfl,rfl,rfl,?_⟩,(by intro h;cases h)⟩
 rw [aB]
 refine Wk ?_
 refine⟨[],trivial,rfl,trivial,rfl,?_⟩
 try subst hk
 repeat' (first |exact trivial |rfl |exact .inl rfl |exact .inr rfl |exact id |exact(fun h=>Bool.noConfusion h)|refine And.intro ?_ ?_)
 ·show 0+l.A.length≤_
  rw [aB];omega
 ·exact eF (aB _)
 ·show 0+l.I.length≤_
  rw [aB];omega
 ·exact eF (aB _)
 ·show 0+l.R.length≤_
  rw [aB];omega
 ·exact eF (aB _)
theorem bCO(l:Ls)(hl:jD l):aQ Tryz.prog 238 [] [.agg l.c] (.agg [.lst 1 false (aJ l.A),.lst 1 false (aJ l.I),.sl 0 0 l.R.length]) [.row 1 (aJ l.R)]:=by
 have h1:=hl.a;have h2:=hl.i;have h3:=hl.r
 refine aF (ob0:= []) [] Tryz.func238 rfl rfl rfl rfl ?_
 refine Wk ?_
 refine .inr ⟨fun _=>⟨[],_,_,_,sM (aJ l.A) false (by rw [aB];omega),trivial,rfl,rfl,rfl,?_⟩,(by intro h;cases h)⟩
 rw [aB]
 refine Wk ?_
 refine .inr ⟨fun _=>⟨[],_,_,_,sM (aJ l.I) false (by rw [aB];omega),trivial,rfl,rfl,rfl,?_⟩,(by intro h;cases h)⟩
 rw [aB]
 refine Wk ?_
 refine .inr ⟨fun _=>⟨[],_,_,_,sM (aJ l.R) false (by rw [aB];omega),trivial,rfl,rfl,rfl,?_⟩,(by intro h;cases h)⟩
 rw [aB]
 refine Wk ?_
 try subst hk
 refine⟨[some 2176],?_,rfl,?_,rfl,?_⟩
 all_goals repeat' (first |exact trivial |rfl |exact .inl rfl |exact .inr rfl |exact id |exact(fun h=>Bool.noConfusion h)|refine And.intro ?_ ?_)
 ·show 0+l.A.length≤_
  rw [aB];omega
 ·exact eF (aB _)
 ·show 0+l.I.length≤_
  rw [aB];omega
 ·exact eF (aB _)
def bO(b:Nat→Bool):Nat→Bool
 |0=>true
 |n+1=>bO b n&& !b n
theorem jI {b:Nat→Bool} :∀ {n i:Nat},i<n→bO b n=true→b i=false
 |0,_,h,_=>by omega
 |n+1,i,h,h1=>by
  simp only [bO,zR,zD] at h1
  by_cases e:i=n
  ·subst e;exact h1.2
  ·exact jI (n:=n) (by omega) h1.1
theorem iC {b:Nat→Bool} {n i:Nat} (h:i<n)(hb:b i=true):bO b n=false:=by
 cases ha:bO b n with
 |false=>rfl
 |true=>rw [jI h ha] at hb;cases hb
theorem oX {b:Nat→Bool} :∀ {n:Nat},(∀i,i<n→b i=false)→bO b n=true
 |0,_=>rfl
 |n+1,h=>by simp only [bO,oX (n:=n) fun i hi=>h i (by omega),h n (by omega)];rfl
def aFU(all:List Int)(i:Nat):Bool:= !dM (all.getD i 0)||decide (all.getD i 0∈all.take i)
def aHN(all R:List Int)(i:Nat):Bool:= !decide (R.getD i 0∈all)||(decide (0< (i:Int))&&decide (R.getD i 0≤R.getD (i-1) 0))
def iI(l:Ls):Bool:=bO (aFU (l.A++l.I)) (l.A++l.I).length&&bO (aHN (l.A++l.I) l.R) l.R.length
end Go.Proofs.YtmhapcbjjpadnaaGreat
set_option maxRecDepth 40000
namespace Go.Proofs.YtmhapcbjjpadnaaGreat
open Go Go.Sk Go.RowKit
theorem aH0(a b:List Int):aJ a++aJ b=aJ (a++b):=by rw [aJ,aJ,aJ,List.map_append]
set_option maxRecDepth 20000 in
set_option maxHeartbeats 1000000 in
theorem aZY(l:Ls)(hl:jD l):aQ Tryz.prog 231 [] [.agg l.c] (.bool (iI l)) []:=by
 have h1:=hl.a;have h2:=hl.i;have h3:=hl.r
 have hall:(l.A++l.I).length≤20000:=by rw [zF];omega
 refine aF (ob0:= []) [] Tryz.func231 rfl rfl rfl rfl ?_
 generalize hk:iI l=q
 refine Wk ?_
 refine .inr ⟨fun _=>⟨[],_,_,_,sM (aJ l.A) false (by rw [aB];omega),trivial,rfl,rfl,rfl,?_⟩,(by intro h;cases h)⟩
 rw [aB]
 refine Wk ?_
 first |refine aE (by rw [aB]) (bZ (by rw [aB,aB];omega) (by rw [aB,aB];omega) ?_)|refine aE ⟨by rw [aB],by rw [aB,aB];omega,by rw [aB,aB];omega⟩ ?_ |refine⟨by rw [aB],by rw [aB,aB];omega,by rw [aB,aB];omega,?_⟩
 refine Wk ?_
 have hn:((aJ l.A).length+(aJ l.I).length:Nat)=(l.A++l.I).length:=by rw [aB,aB,zF]
 rw [hn,aH0]
 rw [iI] at hk
 generalize l.A++l.I=all at hk hall⊢
 refine⟨Nat×List (List Int×V),fun p=>(p.1≤all.length∧bO (aFU all) p.1=true)∧∀f,dZ p.2 [f] (.bool false)=.bool (decide (f∈all.take p.1)),fun p=>⟨[(1,⟨[],true,.ptr 0 0 0⟩),(3,⟨[],true,.mp 1⟩),(14,⟨[],true,.lst 1 false (aJ all)⟩),(15,⟨[],true,.int .i64 (all.length:Int)⟩),(16,⟨[],true,.int .i64 (p.1:Int)⟩)],
  [(0,.box l.c),(1,.mp (1,p.2))],2⟩,fun p=>all.length-p.1,⟨(0,[]),⟨⟨by simp,rfl⟩,fun f=>by simp [dZ]⟩,?_⟩,fun p hp=>?_⟩
 ·refine cO [some 0,some 1] rfl rfl ?_ rfl ?_ rfl ?_
  repeat' (first |exact trivial |rfl |exact .inl rfl |exact .inr rfl |exact id |exact(fun h=>Bool.noConfusion h)|refine And.intro ?_ ?_)
  ·show 0+all.length≤_
   rw [aB];omega
  ·exact eF (aB _)
 obtain⟨i,M⟩:=p
 obtain⟨⟨hp1,hp2⟩,hM⟩:=hp
 dsimp only at hp1 hp2 hM⊢
 refine Wk ?_
 refine aI (fun b1=>?_) (fun b1=>?_)<;> try simp only [zE,zA,zD,zG,zI] at b1
 ·have b1:i<all.length:=by simp at b1;omega
  have hi1:IntKind.i64.wrap ((i:Int)+1)=((i+1:Nat):Int):=by rw [aY (by omega) (by omega)];omega
  refine Wk ?_
  first |refine aE (⟨rfl,by omega,by rw [aB];omega⟩) ?_ |refine aM (fun _=>⟨rfl,by omega,by rw [aB];omega⟩) ?_ |refine⟨fun _=>⟨rfl,by omega,by rw [aB];omega⟩,?_⟩
  rw [aDL all i b1]
  have hbd:aFU all i=(!dM (all.getD i 0)||decide (all.getD i 0∈all.take i)):=rfl
  have hmem:∀y,y∈all.take (i+1)↔y∈all.take i∨y=all.getD i 0:=fun y=>by
   rw [zC b1,List.mem_append,List.mem_singleton,fV all i b1]
  generalize all.getD i 0=f at hbd hmem⊢
  refine dF (bAD f) ?_
  rw [hM f]
  refine Wk ?_
  refine aI (fun b2=>?_) (fun b2=>?_)<;> try simp only [zE,zA,zD,zG,zI] at b2
  ·have b2:aFU all i=true:=by rw [hbd,←b2]
   rw [iC b1 b2] at hk
   have hk:q=false:=by rw [←hk];rfl
   subst hk
   refine Wk ?_
   try subst hk
   exact Lf
  have b2:aFU all i=false:=by rw [hbd,←b2]
  refine Wk ?_
  rw [hi1]
  refine⟨(i+1,fW M [f] (.bool true)),⟨⟨by show i+1≤_;omega,by show bO (aFU all) (i+1)=true;simp only [bO,hp2,b2];rfl⟩,fun y=>?_⟩,?_,by show all.length- (i+1)<all.length-i;omega⟩
  ·show dZ (fW M [f] (.bool true)) [y] (.bool false)=.bool (decide (y∈all.take (i+1)))
   rw [vR,hM y]
   simp only [List.cons.injEq,and_true]
   by_cases e:y=f
   ·rw [if_pos e,show decide (y∈all.take (i+1))=true by rw [decide_eq_true_eq,hmem];exact .inr e]
   ·rw [if_neg e]
    congr 1
    exact decide_eq_decide.2 (by rw [hmem];exact⟨.inl,fun h=>h.resolve_right e⟩)
  exact Vw [some 0,some 1]
 have b1:i=all.length:=by simp at b1;omega
 subst b1
 rw [zM] at hM
 rw [hp2,Bool.true_and] at hk
 refine Wk ?_
 rw [aB]
 refine⟨Nat,fun j=>j≤l.R.length∧bO (aHN all l.R) j=true,fun j=>⟨[(1,⟨[],true,.ptr 0 0 0⟩),(3,⟨[],true,.mp 1⟩),(32,⟨[],true,.lst 1 false (aJ l.R)⟩),(33,⟨[],true,.int .i64 (l.R.length:Int)⟩),(34,⟨[],true,.int .i64 (j:Int)⟩)],
  [(0,.box l.c),(1,.mp (1,M))],2⟩,fun j=>l.R.length-j,⟨0,⟨by omega,rfl⟩,?_⟩,fun j hj=>?_⟩
 ·exact Vw [some 0,some 1]
 obtain⟨hj1,hj2⟩:=hj
 refine Wk ?_
 refine aI (fun c1=>?_) (fun c1=>?_)<;> try simp only [zE,zA,zD,zG,zI] at c1
 ·have c1:j<l.R.length:=by simp at c1;omega
  have hj3:IntKind.i64.wrap ((j:Int)+1)=((j+1:Nat):Int):=by rw [aY (by omega) (by omega)];omega
  refine Wk ?_
  first |refine aE (⟨rfl,by omega,by rw [aB];omega⟩) ?_ |refine aM (fun _=>⟨rfl,by omega,by rw [aB];omega⟩) ?_ |refine⟨fun _=>⟨rfl,by omega,by rw [aB];omega⟩,?_⟩
  rw [aDL l.R j c1]
  refine Wk ?_
  rw [hM]
  refine Wk ?_
  rw [aJ7 j (by omega),aDG j (by omega)]
  first |refine aM (fun hg=>⟨rfl,?_,by rw [aB];omega⟩) ?_ |refine⟨fun hg=>⟨rfl,?_,by rw [aB];omega⟩,?_⟩
  ·simp only [zR,decide_eq_true_eq] at hg;omega
  rw [dJ l.R (j-1) (by omega),fV l.R (j-1) (by omega)]
  refine Wk ?_
  have hbd:aHN all l.R j=(!decide (l.R.getD j 0∈all)||(decide (0< (j:Int))&&decide (l.R.getD j 0≤l.R.getD (j-1) 0))):=rfl
  refine aI (fun c2=>?_) (fun c2=>?_)<;> try simp only [zE,zA,zD,zG,zI] at c2
  ·have c2:aHN all l.R j=true:=by rw [hbd,←c2]
   rw [iC c1 c2] at hk
   subst hk
   refine Wk ?_
   try subst hk
   exact Lf
  have c2:aHN all l.R j=false:=by rw [hbd,←c2]
  refine Wk ?_
  rw [hj3]
  refine⟨j+1,⟨by show j+1≤_;omega,by simp only [bO,hj2,c2];rfl⟩,?_,by show l.R.length- (j+1)<l.R.length-j;omega⟩
  exact Vw [some 0,some 1]
 have c1:j=l.R.length:=by simp at c1;omega
 rw [←c1,hj2] at hk
 subst hk
 refine Wk ?_
 try subst hk
 exact Lf
end Go.Proofs.YtmhapcbjjpadnaaGreat
set_option maxRecDepth 40000
namespace Go.Proofs.YtmhapcbjjpadnaaGreat
open Go Go.Sk Go.RowKit
end Go.Proofs.YtmhapcbjjpadnaaGreat
