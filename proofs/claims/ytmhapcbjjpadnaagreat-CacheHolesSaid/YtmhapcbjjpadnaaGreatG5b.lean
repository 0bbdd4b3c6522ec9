/- Caches. -/
import Derived.Test.YtmhapcbjjpadnaaGreatG4b
set_option linter.all false
set_option maxHeartbeats 1000000
set_option maxRecDepth 40000
open Bool renaming cond_false_right→zA,cond_true_left→zC,not_eq_true'→zD,not_eq_false'→zE,not_not→zG,and_eq_true→zL,eq_iff_iff→zQ,true_and→zU
open Int renaming toNat_natCast→zH,natCast_nonneg→zJ,le_refl→zY
open List renaming length_append→zF,take_succ_eq_append_getElem→zI,take_length→zK,length_set→zM,replicate→zN,getElem?_eq_getElem→zO,length_take→zP,length_singleton→zS,getElem_of_mem→zT,map_take→zV,filter_append→zW,getElem?_drop→zX,take→zZ,drop→yA
namespace Go.Proofs.YtmhapcbjjpadnaaGreat
open Go Go.Sk Go.RowKit
def wo(l:List Int)(x:Int):List Int:=l.filter (λy=>y != x)
theorem aGL(l:List Int)(t:Bool)(x:Int)(hl:(l.length:Int)<2^62):aM Tryz.prog 196 [] [.lst 1 t (aE l),.int .i64 x] (.int .i64 (dR (λy=>y==x) l)) []:=by
 refine aF (ob0:= []) [] Tryz.func196 rfl rfl rfl rfl ?_
 generalize hk:dR (λy=>y==x) l=q
 refine Wk ?_
 refine⟨Nat,λi=>i<=l.length/\∀j (hj:j<i) (h:j<l.length),(l[j]==x)=false,λi=>⟨[(0,⟨[],true,.lst 1 t (aE l)⟩),(1,⟨[],true,.int .i64 x⟩),(4,⟨[],true,.int .i64 0⟩),(5,⟨[],true,.int .i64 (i:Int)⟩)],[],0⟩,λi=>l.length-i,⟨0,⟨by omega,λj hj=>by omega⟩,?_⟩,λi hI=>?_⟩
 ·exact Vw []
 obtain⟨hI1,hI2⟩:=hI
 refine Wk ?_
 rw [aA]
 refine aC (λh2=>?_) (λh2=>?_)<;> try simp only [zC,zA,zD,zE,zG] at h2
 ·have h2:i<l.length:=by simp at h2;omega
  refine Wk ?_
  first |refine aB (⟨rfl,by omega,by rw [aA];omega⟩) ?_ |refine aH (λ_=>⟨rfl,by omega,by rw [aA];omega⟩) ?_ |refine⟨λ_=>⟨rfl,by omega,by rw [aA];omega⟩,?_⟩
  rw [zH,bN l i h2]
  refine Wk ?_
  refine aC (λh3=>?_) (λh3=>?_)<;> try simp only [zC,zA,zD,zE,zG] at h3
  ·have :q=i:=by rw [<-hk];exact qJ _ l i h2 (λj hj=>hI2 j hj (by omega)) h3
   subst this
   refine Wk ?_
   try subst hk
   exact Lf
  refine Wk ?_
  rw [aR (n:=(i:Int)+1) (by omega) (by omega),show((i:Int)+1)=((i+1:Nat):Int) by omega]
  refine⟨i+1,⟨by omega,λj hj h=>?_⟩,?_,by show l.length- (i+1)<l.length-i;omega⟩
  ·by_cases e:j=i
   ·subst e;exact h3
   ·exact hI2 j (by omega) h
  exact Vw []
 have h2:i=l.length:=by simp at h2;omega
 have :q= -1:=by rw [<-hk];exact jV _ l λy hy=>by obtain⟨j,hj,rfl⟩:=zT hy;exact hI2 j (by omega) hj
 subst this
 refine Wk ?_
 try subst hk
 exact Lf
theorem atM(l:List Int)(x:Int):decide (0<=dR (λy=>y==x) l)=decide (x∈l):=by
 have :(λy=>y==x)=(λy=>x==y):=by funext y;rw [zQ];simp only [beq_iff_eq];exact eq_comm
 rw [this];exact bGM l x
theorem atN(l:List Int)(x:Int):decide (dR (λy=>y==x) l<0)=decide (x∉l):=by
 have :=atM l x
 rw [zQ,decide_eq_true_eq,decide_eq_true_eq] at this
 rw [zQ,decide_eq_true_eq,decide_eq_true_eq,<-this]
 omega
theorem aUU(l:List Int)(t:Bool)(x:Int)(hl:l.length<=100000):aM Tryz.prog 197 [] [.lst 1 t (aE l),.int .i64 x] (.lst 1 false (aE (x::l))) []:=by
 refine aF (ob0:= []) [] Tryz.func197 rfl rfl rfl rfl ?_
 refine Wk ?_
 rw [aA]
 first |refine bG (by show((1+l.length:Nat):Int)<=_;omega) (by show(1+l.length)*8<=_;omega) ?_ |refine aB ⟨by show((1+l.length:Nat):Int)<=_;omega,by show(1+l.length)*8<=_;omega⟩ ?_ |refine⟨by show((1+l.length:Nat):Int)<=_;omega,by show(1+l.length)*8<=_;omega,?_⟩
 refine Wk ?_
 refine⟨[],trivial,rfl,trivial,rfl,?_⟩
 try subst hk
 repeat' (first |exact trivial |rfl |exact .inl rfl |exact .inr rfl |exact id |exact(λh=>Bool.noConfusion h)|refine And.intro ?_ ?_)
 ·show 0+(1+l.length)<=([[V.int .i64 x]]++aE l).length
  rw [zF,aA];simp
 ·show zZ (1+l.length) (yA 0 ([[V.int .i64 x]]++aE l))=aE (x::l)
  exact dB (by rw [zF,aA];simp)
def cG(f:Int):Bool:=decide (1<=f)&&decide (f<=64)
theorem bC1(f:Int):aM Tryz.prog 309 [] [.int .i64 f] (.bool (cG f)) []:=by
 refine aF (ob0:= []) [] Tryz.func309 rfl rfl rfl rfl ?_
 refine Wk ?_
 refine⟨[],trivial,rfl,trivial,rfl,?_⟩
 try subst hk
 repeat' (first |exact trivial |rfl |exact .inl rfl |exact .inr rfl |exact id |exact(λh=>Bool.noConfusion h)|refine And.intro ?_ ?_)
 unfold cG;cases decide (1<=f)<;> rfl
theorem bC7(y x:Int):aM Tryz.prog 338 [] [.int .i64 y,.rp 1 [.int .i64 x] 0] (.bool (y==x)) []:=by
 refine aF (ob0:= []) [] Tryz.func338 rfl rfl rfl rfl ?_
 refine Wk ?_
 try subst hk
 exact Lf
theorem call83:fY Tryz.prog 338:=⟨_,Tryz.func338,rfl,rfl⟩
theorem aZ2(a b:List Int)(ta tb:Bool)(ha:(a.length:Int)<2^62)(hb:(b.length:Int)<2^62):aM Tryz.prog 91 [] [.lst 1 ta (aE a),.lst 1 tb (aE b)] (.bool (decide (a=b))) []:=by
 refine aF (ob0:= []) [] Tryz.func91 rfl rfl rfl rfl ?_
 generalize hk:decide (a=b)=q
 refine Wk ?_
 rw [aA,aA]
 refine aC (λh1=>?_) (λh1=>?_)<;> try simp only [zC,zA,zD,zE,zG] at h1
 ·have h1:a.length≠b.length:=by simp at h1;omega
  have :q=false:=by rw [<-hk,decide_eq_false_iff_not];rintro rfl;exact h1 rfl
  subst this
  refine Wk ?_
  try subst hk
  exact Lf
 have h1:a.length=b.length:=by simp at h1;omega
 refine Wk ?_
 refine⟨Nat,λi=>i<=a.length/\∀j (h:j<a.length) (h':j<b.length),j<i->a[j]=b[j],λi=>⟨[(0,⟨[],true,.lst 1 ta (aE a)⟩),(1,⟨[],true,.lst 1 tb (aE b)⟩),(5,⟨[],true,.int .i64 (i:Int)⟩)],[],0⟩,λi=>a.length-i,⟨0,⟨by omega,λj _ _ h=>by omega⟩,?_⟩,λi hI=>?_⟩
 ·exact Vw []
 obtain⟨hI1,hI2⟩:=hI
 refine Wk ?_
 rw [aA]
 refine aC (λh2=>?_) (λh2=>?_)<;> try simp only [zC,zA,zD,zE,zG] at h2
 ·have h2:i<a.length:=by simp at h2;omega
  have h2':i<b.length:=by omega
  refine Wk ?_
  first |refine aB (⟨rfl,by omega,by rw [aA];omega⟩) ?_ |refine aH (λ_=>⟨rfl,by omega,by rw [aA];omega⟩) ?_ |refine⟨λ_=>⟨rfl,by omega,by rw [aA];omega⟩,?_⟩
  rw [zH,bN a i h2]
  refine Wk ?_
  first |refine aB (⟨rfl,by omega,by rw [aA];omega⟩) ?_ |refine aH (λ_=>⟨rfl,by omega,by rw [aA];omega⟩) ?_ |refine⟨λ_=>⟨rfl,by omega,by rw [aA];omega⟩,?_⟩
  rw [zH,bN b i h2']
  refine Wk ?_
  refine aC (λh3=>?_) (λh3=>?_)<;> try simp only [zC,zA,zD,zE,zG] at h3
  ·have :q=false:=by rw [<-hk,decide_eq_false_iff_not];rintro rfl;simp at h3
   subst this
   refine Wk ?_
   try subst hk
   exact Lf
  have h3:a[i]=b[i]:=by simpa using h3
  refine Wk ?_
  rw [aR (n:=(i:Int)+1) (by omega) (by omega),show((i:Int)+1)=((i+1:Nat):Int) by omega]
  refine⟨i+1,⟨by omega,λj h h' hj=>?_⟩,?_,by show a.length- (i+1)<a.length-i;omega⟩
  ·by_cases e:j=i
   ·subst e;exact h3
   ·exact hI2 j h h' (by omega)
  exact Vw []
 have h2:i=a.length:=by simp at h2;omega
 have :q=true:=by
  rw [<-hk,decide_eq_true_eq]
  exact List.ext_getElem h1 λj h h'=>hI2 j h h' (by omega)
 subst this
 refine Wk ?_
 try subst hk
 exact Lf
end Go.Proofs.YtmhapcbjjpadnaaGreat
namespace Go.Proofs.YtmhapcbjjpadnaaGreat
open Go Go.Sk Go.RowKit
theorem aO8(l:List Int)(x:Int):(wo l x).length<=l.length:=List.length_filter_le _ _
theorem fV {l:List Int} {x y:Int} :y∈wo l x↔y∈l/\y≠x:=by simp [wo]
theorem aJ0 {l:List Int} {x:Int} {i:Nat} (h:i<l.length)(hx:l[i]≠x):wo (l.take (i+1)) x=wo (l.take i) x++ [l[i]]:=by
 rw [zI h,wo,wo,zW]
 simp [hx]
theorem aDB {l:List Int} {x:Int} {i:Nat} (h:i<l.length)(hx:l[i]=x):wo (l.take (i+1)) x=wo (l.take i) x:=by
 rw [zI h,wo,wo,zW]
 simp [hx]
theorem aAA {l:List Int} {x:Int} (h:x∉l):wo l x=l:=by
 rw [wo,List.filter_eq_self]
 intro y hy
 simp only [bne_iff_ne]
 rintro rfl;exact h hy
theorem sU(l:List Int)(x:Int)(i:Nat):(wo (l.take i) x).length<=i:=Nat.le_trans (aO8 _ _) (by simp;omega)
theorem aKZ(l:List Int)(t:Bool)(x:Int)(hl:l.length<=100000):aM Tryz.prog 198 [] [.lst 1 t (aE l),.int .i64 x] (.lst 1 false (aE (wo l x))) []:=by
 refine aF (ob0:= []) [] Tryz.func198 rfl rfl rfl rfl ?_
 generalize hk:wo l x=q
 refine Wk ?_
 refine⟨Nat,λi=>i<=l.length,λi=>⟨[(0,⟨[],true,.lst 1 t (aE l)⟩),(1,⟨[],true,.int .i64 x⟩),(5,⟨[],true,.sl 0 0 (wo (l.take i) x).length⟩),(6,⟨[],true,.int .i64 (i:Int)⟩)],[(0,.row 1 (aE (wo (l.take i) x)))],1⟩,λi=>l.length-i,⟨0,by omega,?_⟩,λi hI=>?_⟩
 ·exact Vw [none]
 have hI:i<=l.length:=hI
 have hwl:=sU l x i
 refine Wk ?_
 rw [aA]
 refine aC (λh2=>?_) (λh2=>?_)<;> try simp only [zC,zA,zD,zE,zG] at h2
 ·have h2:i<l.length:=by simp at h2;omega
  have hw:IntKind.i64.wrap ((i:Int)+1)=((i+1:Nat):Int):=by rw [aR (by omega) (by omega)];omega
  have hkeep:=aJ0 (x:=x) h2
  have hskip:=aDB (x:=x) h2
  refine Wk ?_
  first |refine aB (⟨rfl,by omega,by rw [aA];omega⟩) ?_ |refine aH (λ_=>⟨rfl,by omega,by rw [aA];omega⟩) ?_ |refine⟨λ_=>⟨rfl,by omega,by rw [aA];omega⟩,?_⟩
  rw [zH,bN l i h2]
  refine Wk ?_
  generalize hout:wo (l.take i) x=out at hwl hkeep hskip⊢
  refine aC (λh3=>?_) (λh3=>?_)<;> try simp only [zC,zA,zD,zE,zG] at h3
  ·have h3:l[i]≠x:=by simpa using h3
   have hkeep:=hkeep h3
   refine Wk ?_
   first |refine aB (⟨rfl,by omega,by rw [aA];omega⟩) ?_ |refine aH (λ_=>⟨rfl,by omega,by rw [aA];omega⟩) ?_ |refine⟨λ_=>⟨rfl,by omega,by rw [aA];omega⟩,?_⟩
   rw [zH,bN l i h2]
   refine Wk ?_
   first |refine aB ((aA out).symm) (bG (by show(((aE out).length+1:Nat):Int)<=_;rw [aA];omega) (by show((aE out).length+1)*8<=_;rw [aA];omega) ?_)|refine aB ⟨(aA out).symm,by show(((aE out).length+1:Nat):Int)<=_;rw [aA];omega,by show((aE out).length+1)*8<=_;rw [aA];omega⟩ ?_ |refine⟨(aA out).symm,by show(((aE out).length+1:Nat):Int)<=_;rw [aA];omega,by show((aE out).length+1)*8<=_;rw [aA];omega,?_⟩
   refine Wk ?_
   rw [hw]
   refine⟨i+1,by show i+1<=_;omega,?_,by show l.length- (i+1)<l.length-i;omega⟩
   dsimp only
   rw [hkeep]
   refine bX [some ?k54_0] rfl rfl ?h3_54 ?h4_54 ?h5_54 ?h6_54 ?h7_54
   case' h7_54=>repeat' (first |exact trivial |rfl |exact .inl rfl |exact .inr rfl |exact id |exact(λh=>Bool.noConfusion h)|refine And.intro ?_ ?_)
   case' h4_54=>rfl
   case' h6_54=>rfl
   case' h3_54=>repeat' (first |exact trivial |rfl |exact .inl rfl |exact .inr rfl |exact id |exact(λh=>Bool.noConfusion h)|refine And.intro ?_ ?_)
   case' h5_54=>repeat' (first |exact trivial |rfl |exact .inl rfl |exact .inr rfl |exact id |exact(λh=>Bool.noConfusion h)|refine And.intro ?_ ?_)
   ·exact fW out _
   ·show(aE out).length+1=_
    rw [aA,zF];rfl
  have h3:l[i]=x:=by simpa using h3
  have hskip:=hskip h3
  refine Wk ?_
  rw [hw]
  refine⟨i+1,by show i+1<=_;omega,?_,by show l.length- (i+1)<l.length-i;omega⟩
  dsimp only
  rw [hskip]
  exact Vw [some 0]
 have h2:i=l.length:=by simp at h2;omega
 subst h2
 rw [zK,hk]
 refine Wk ?_
 refine⟨[],trivial,rfl,trivial,rfl,?_⟩
 try subst hk
 repeat' (first |exact trivial |rfl |exact .inl rfl |exact .inr rfl |exact id |exact(λh=>Bool.noConfusion h)|refine And.intro ?_ ?_)
 ·show 0+(wo l x).length<=_
  rw [aA];omega
 ·exact dB (aA _)
theorem bHZ(l:List Int)(t:Bool)(f:Int)(hl:l.length<=100000)(hn:f∉l):aM Tryz.prog 204 [] [.lst 1 t (aE l),.int .i64 f] (.lst 1 false (aE (gQ l (eW l f) f))) []:=by
 have hpl:=uE l f
 refine aF (ob0:= []) [.c 23,.c 36] Tryz.func204 rfl rfl rfl rfl ?_
 refine Wk ?_
 refine⟨Nat×List Int,λy=>y.1<=l.length/\y.2=oQ l f y.1,λy=>⟨[(0,⟨[],true,.lst 1 t (aE l)⟩),(1,⟨[],true,.int .i64 f⟩),(5,⟨[],true,.sl 0 0 y.2.length⟩),(6,⟨[],true,.bool (decide (eW l f<y.1))⟩),(7,⟨[],true,.int .i64 (y.1:Int)⟩)],
  [(0,.row 1 (aE y.2))],1⟩,λy=>l.length-y.1,⟨(0,[]),⟨by simp,by show []=oQ l f 0;rw [oQ,if_pos (by omega),List.take_zero]⟩,?_⟩,λy hk'=>?_⟩
 ·exact Vw [none]
 obtain⟨k,acc⟩:=y
 obtain⟨hk1,hacc⟩:=hk'
 dsimp only at hk1 hacc⊢
 have hal:=aJB l f k hk1
 refine Wk ?_
 rw [aA]
 refine aC (λh5=>?_) (λh5=>?_)<;> try simp only [zC,zA,zD,zE,zG] at h5
 ·have h5:k<l.length:=by simp at h5;omega
  have h6:l.getD k 0≠f:=by
   intro e;rw [<-fI l k h5] at e;exact hn (e▸List.getElem_mem h5)
  refine Wk ?_
  generalize hm:(bif decide (eW l f=k) then acc++ [f] else acc)=mid
  refine⟨Unit,λ_=>True,λ_=>⟨[(0,⟨[],true,.lst 1 t (aE l)⟩),(1,⟨[],true,.int .i64 f⟩),(5,⟨[],true,.sl 0 0 mid.length⟩),(6,⟨[],true,.bool (decide (eW l f<k+1))⟩),(7,⟨[],true,.int .i64 (k:Int)⟩)],[(0,.row 1 (aE mid))],1⟩,?_,λ_ _=>?_⟩
  ·refine Wk ?_
   first |refine aB (⟨rfl,zJ k,by rw [aA];omega⟩) ?_ |refine aH (λ_=>⟨rfl,zJ k,by rw [aA];omega⟩) ?_ |refine⟨λ_=>⟨rfl,zJ k,by rw [aA];omega⟩,?_⟩
   rw [dX l k h5]
   refine Wk ?_
   refine aC (λh7=>?_) (λh7=>?_)<;> try simp only [zC,zA,zD,zE,zG] at h7
   ·have h7:(!decide (eW l f<k)&&decide (f<l.getD k 0))=true:=by simpa using h7
    have e7:eW l f=k:=by
     simp only [zL,zD,decide_eq_false_iff_not,decide_eq_true_eq] at h7
     have :=λh=>aHB l f k h
     omega
    have hm:acc++ [f]=mid:=by rw [<-hm,show decide (eW l f=k)=true by simpa using e7];rfl
    subst hm
    refine Wk ?_
    first |refine aB ((aA acc).symm) (bG (by show(((aE acc).length+1:Nat):Int)<=_;rw [aA,hacc];omega) (by show((aE acc).length+1)*8<=_;rw [aA,hacc];omega) ?_)|refine aB ⟨(aA acc).symm,by show(((aE acc).length+1:Nat):Int)<=_;rw [aA,hacc];omega,by show((aE acc).length+1)*8<=_;rw [aA,hacc];omega⟩ ?_ |refine⟨(aA acc).symm,by show(((aE acc).length+1:Nat):Int)<=_;rw [aA,hacc];omega,by show((aE acc).length+1)*8<=_;rw [aA,hacc];omega,?_⟩
    refine Wk ?_
    refine⟨(),trivial,?_⟩
    refine bX [some ?k119_0] rfl rfl ?h3_119 ?h4_119 ?h5_119 ?h6_119 ?h7_119
    case' h7_119=>repeat' (first |exact trivial |rfl |exact .inl rfl |exact .inr rfl |exact id |exact(λh=>Bool.noConfusion h)|refine And.intro ?_ ?_)
    case' h4_119=>rfl
    case' h6_119=>rfl
    case' h3_119=>repeat' (first |exact trivial |rfl |exact .inl rfl |exact .inr rfl |exact id |exact(λh=>Bool.noConfusion h)|refine And.intro ?_ ?_)
    case' h5_119=>repeat' (first |exact trivial |rfl |exact .inl rfl |exact .inr rfl |exact id |exact(λh=>Bool.noConfusion h)|refine And.intro ?_ ?_)
    ·exact fW acc f
    ·show(aE acc).length+1=_
     rw [aA,zF];rfl
    ·show true=decide (eW l f<k+1)
     simp;omega
   have h7:(!decide (eW l f<k)&&decide (f<l.getD k 0))=false:=by simpa using h7
   have e7:eW l f≠k:=by
    intro e
    have :=aHA l f (by omega)
    rw [e] at this
    rw [e,show decide (k<k)=false by simp,Bool.not_false,zU,decide_eq_false_iff_not] at h7
    omega
   have hm:acc=mid:=by rw [<-hm,show decide (eW l f=k)=false by simpa using e7];rfl
   subst hm
   refine Wk ?_
   refine⟨(),trivial,?_⟩
   refine bX [some 0] rfl rfl ?_ rfl ?_ rfl ?_
   repeat' (first |exact trivial |rfl |exact .inl rfl |exact .inr rfl |exact id |exact(λh=>Bool.noConfusion h)|refine And.intro ?_ ?_)
   exact decide_eq_decide.2 (by show eW l f<k↔eW l f<k+1;omega)
  refine Wk ?_
  have hml:mid.length<=k+2:=by
   rw [<-hm]
   cases decide (eW l f=k) with
   |true=>show(acc++ [f]).length<=_;rw [hacc];have :=hal;simp;omega
   |false=>show acc.length<=_;rw [hacc];omega
  first |refine aB (⟨rfl,zJ k,by rw [aA];omega⟩) ?_ |refine aH (λ_=>⟨rfl,zJ k,by rw [aA];omega⟩) ?_ |refine⟨λ_=>⟨rfl,zJ k,by rw [aA];omega⟩,?_⟩
  rw [dX l k h5]
  refine Wk ?_
  first |refine aB ((aA mid).symm) (bG (by show(((aE mid).length+1:Nat):Int)<=_;rw [aA];omega) (by show((aE mid).length+1)*8<=_;rw [aA];omega) ?_)|refine aB ⟨(aA mid).symm,by show(((aE mid).length+1:Nat):Int)<=_;rw [aA];omega,by show((aE mid).length+1)*8<=_;rw [aA];omega⟩ ?_ |refine⟨(aA mid).symm,by show(((aE mid).length+1:Nat):Int)<=_;rw [aA];omega,by show((aE mid).length+1)*8<=_;rw [aA];omega,?_⟩
  refine Wk ?_
  rw [aR (n:=(k:Int)+1) (by omega) (by omega),show((k:Int)+1)=((k+1:Nat):Int) by omega]
  have hnext:mid++ [l.getD k 0]=oQ l f (k+1):=by
   by_cases e:eW l f=k
   ·rw [<-hm,show decide (eW l f=k)=true by simpa using e,cond_true,hacc,<-e]
    exact aJC (by omega)
   ·rw [<-hm,show decide (eW l f=k)=false by simpa using e,cond_false,hacc]
    exact aFK h5 (λh=>e h.symm)
  refine⟨(k+1,mid++ [l.getD k 0]),⟨by show k+1<=_;omega,hnext⟩,?_,by show l.length- (k+1)<l.length-k;omega⟩
  refine bX [some ?k163_0] rfl rfl ?h3_163 ?h4_163 ?h5_163 ?h6_163 ?h7_163
  case' h7_163=>repeat' (first |exact trivial |rfl |exact .inl rfl |exact .inr rfl |exact id |exact(λh=>Bool.noConfusion h)|refine And.intro ?_ ?_)
  case' h4_163=>rfl
  case' h6_163=>rfl
  case' h3_163=>repeat' (first |exact trivial |rfl |exact .inl rfl |exact .inr rfl |exact id |exact(λh=>Bool.noConfusion h)|refine And.intro ?_ ?_)
  case' h5_163=>repeat' (first |exact trivial |rfl |exact .inl rfl |exact .inr rfl |exact id |exact(λh=>Bool.noConfusion h)|refine And.intro ?_ ?_)
  ·exact fW mid _
  ·show(aE mid).length+1=_
   rw [aA,zF];rfl
 have h5:k=l.length:=by simp at h5;omega
 subst h5
 refine Wk ?_
 generalize hr:gQ l (eW l f) f=res
 have hrl:res.length=l.length+1:=by rw [<-hr,kV]
 have hend:=aJA l f
 rw [<-hacc,hr] at hend
 refine⟨Unit,λ_=>True,λ_=>⟨[(5,⟨[],true,.sl 0 0 res.length⟩)],[(0,.row 1 (aE res))],1⟩,?_,λ_ _=>?_⟩
 ·refine Wk ?_
  refine aC (λh7=>?_) (λh7=>?_)<;> try simp only [zC,zA,zD,zE,zG] at h7
  ·have h7:decide (eW l f<l.length)=false:=h7
   have hend:acc++ [f]=res:=by rw [<-hend,if_neg (by simpa using h7)]
   subst hend
   refine Wk ?_
   first |refine aB ((aA acc).symm) (bG (by show(((aE acc).length+1:Nat):Int)<=_;rw [aA];simp at hrl;omega) (by show((aE acc).length+1)*8<=_;rw [aA];simp at hrl;omega) ?_)|refine aB ⟨(aA acc).symm,by show(((aE acc).length+1:Nat):Int)<=_;rw [aA];simp at hrl;omega,by show((aE acc).length+1)*8<=_;rw [aA];simp at hrl;omega⟩ ?_ |refine⟨(aA acc).symm,by show(((aE acc).length+1:Nat):Int)<=_;rw [aA];simp at hrl;omega,by show((aE acc).length+1)*8<=_;rw [aA];simp at hrl;omega,?_⟩
   refine Wk ?_
   refine⟨(),trivial,?_⟩
   refine bX [some ?k189_0] rfl rfl ?h3_189 ?h4_189 ?h5_189 ?h6_189 ?h7_189
   case' h7_189=>repeat' (first |exact trivial |rfl |exact .inl rfl |exact .inr rfl |exact id |exact(λh=>Bool.noConfusion h)|refine And.intro ?_ ?_)
   case' h4_189=>rfl
   case' h6_189=>rfl
   case' h3_189=>repeat' (first |exact trivial |rfl |exact .inl rfl |exact .inr rfl |exact id |exact(λh=>Bool.noConfusion h)|refine And.intro ?_ ?_)
   case' h5_189=>repeat' (first |exact trivial |rfl |exact .inl rfl |exact .inr rfl |exact id |exact(λh=>Bool.noConfusion h)|refine And.intro ?_ ?_)
   ·exact fW acc f
   ·show(aE acc).length+1=_
    rw [aA,zF];rfl
  have h7:decide (eW l f<l.length)=true:=h7
  have hend:acc=res:=by rw [<-hend,if_pos (by simpa using h7)]
  subst hend
  refine Wk ?_
  refine⟨(),trivial,?_⟩
  exact Vw [some 0]
 refine Wk ?_
 refine⟨[],trivial,rfl,trivial,rfl,?_⟩
 try subst hk
 repeat' (first |exact trivial |rfl |exact .inl rfl |exact .inr rfl |exact id |exact(λh=>Bool.noConfusion h)|refine And.intro ?_ ?_)
 ·show 0+res.length<=_
  rw [aA];omega
 ·exact dB (aA _)
end Go.Proofs.YtmhapcbjjpadnaaGreat
namespace Go.Proofs.YtmhapcbjjpadnaaGreat
open Go Go.Sk Go.RowKit
structure aAC(l:List Int)(x:Int)(j:Nat)(R:List Int):Prop where
 le:j<=l.length
 len:R.length=l.length
 kept:R.take (wo (l.take j) x).length=wo (l.take j) x
 rest:R.drop j=l.drop j
theorem aAC.getj {l:List Int} {x:Int} {j:Nat} {R:List Int} (h:aAC l x j R)(hj:j<l.length):R[j]'(by rw [h.len];exact hj)=l[j]:=by
 have h1:(R.drop j)[0]? =(l.drop j)[0]? :=by rw [h.rest]
 rw [zX,zX,Nat.add_zero,zO hj,zO (by rw [h.len];exact hj)] at h1
 exact Option.some.inj h1
theorem aFW {R l:List Int} {j:Nat} (h:R.drop j=l.drop j):R.drop (j+1)=l.drop (j+1):=by
 rw [<-List.drop_drop,<-List.drop_drop,h]
theorem aAC.skip {l:List Int} {x:Int} {j:Nat} {R:List Int} (h:aAC l x j R)(hj:j<l.length)(hx:l[j]=x):aAC l x (j+1) R:=by
 have e:=aDB (x:=x) hj hx
 exact⟨by omega,h.len,by rw [e];exact h.kept,aFW h.rest⟩
theorem aAC.keep {l:List Int} {x:Int} {j:Nat} {R:List Int} (h:aAC l x j R)(hj:j<l.length)(hx:l[j]≠x):aAC l x (j+1) (R.set (wo (l.take j) x).length l[j]):=by
 have e:=aJ0 (x:=x) hj hx
 have hle:=sU l x j
 have hk:=h.kept
 have hlen:=h.len
 first |refine aB (by omega) (bG (by rw [zM];exact h.len) (?_) ?_)|refine aB ⟨by omega,by rw [zM];exact h.len,?_⟩ ?_ |refine⟨by omega,by rw [zM];exact h.len,?_,?_⟩
 ·rw [e,zF,zS]
  generalize wo (l.take j) x=K at hk hle⊢
  rw [zI (by rw [zM];omega),List.getElem_set_self,List.take_set_of_le (Nat.le_refl _),hk]
 ·rw [List.drop_set_of_lt (by omega)]
  exact aFW h.rest
theorem aAC.start {l:List Int} {x:Int} {n:Nat} (hn:n<l.length)(hx:l[n]=x)(hb:∀j (hj:j<n),l[j]'(by omega)≠x):aAC l x (n+1) l/\(wo (l.take (n+1)) x).length=n:=by
 have e:=aDB (x:=x) hn hx
 have e2:wo (l.take n) x=l.take n:=aAA λhm=>by
  obtain⟨j,hj,he⟩:=zT hm
  rw [zP] at hj
  rw [List.getElem_take] at he
  exact hb j (by omega) he
 have e3:(l.take n).length=n:=by rw [zP];omega
 rw [e,e2]
 refine⟨⟨by omega,rfl,?_,rfl⟩,e3⟩
 rw [e,e2,e3]
theorem bNI(k:Nat):zN k [V.int .i64 0]=aE (zN k 0):=by rw [aE,List.map_replicate]
theorem bJ0(l:List Int)(x:Int)(hl:l.length<=100000):aM Tryz.prog 337 [.row 1 (aE l),.box [.int .i64 x]] [.sl 0 0 l.length,.fn 338 [.ptr 1 0 0]] (.sl 0 0 (wo l x).length)
 [.row 1 (aE (wo l x++zN (l.length- (wo l x).length) 0)),.box [.int .i64 x]]:=by
 refine aF (ob0:= [.row 1 (aE l),.box [.int .i64 x]]) [] Tryz.func337 rfl rfl rfl rfl ?_
 generalize hk:wo l x=q
 have p83:aM Tryz.prog 358 [] [.lst 1 false (aE l),.fn 338 [.rp 1 [.int .i64 x] 0]] (.int .i64 (dR (λy=>y==x) l)) []:=bJ8 l false 338 [.rp 1 [.int .i64 x] 0] (λy=>y==x) call83 rfl (λy _=>bC7 y x) (by omega)
 have ht0:((aE l).drop 0).take l.length=aE l:=dB (aA l)
 have key:aM Tryz.prog 358 [] [.lst 1 false (((aE l).drop 0).take l.length),.fn 338 [.rp 1 [.int .i64 x] 0]] (.int .i64 (dR (λy=>y==x) l)) []:=by rw [ht0];exact p83
 refine Wk ?_
 refine .inl ⟨_,λ_=>⟨?_,key⟩,.inr rfl,?_⟩
 ·intro v hv
  have hv:v∈ [V.sl 0 0 l.length,V.fn 338 [V.ptr 1 0 0]]:=hv
  rcases List.mem_cons.1 hv with rfl |hv
  ·show 0+l.length<=(aE l).length
   rw [aA];omega
  ·obtain rfl:=List.mem_singleton.1 hv
   intro c hc
   obtain rfl:=List.mem_singleton.1 hc
   exact⟨rfl,rfl⟩
 refine Wk ?_
 refine aC (λh1=>?_) (λh1=>?_)<;> try simp only [zC,zA,zD,zE,zG] at h1
 ·have h1:dR (λy=>y==x) l= -1:=by simpa using h1
  have hno:x∉l:=λhm=>by
   have :=(sC (λy=>y==x) l).1 (by omega) x hm
   simp at this
  rw [aAA hno] at hk
  subst hk
  refine Wk ?_
  try subst hk
  refine⟨[some 0,some 1],?_,rfl,?_,rfl,?_⟩
  all_goals repeat' (first |exact trivial |rfl |exact .inl rfl |exact .inr rfl |exact id |exact(λh=>Bool.noConfusion h)|refine And.intro ?_ ?_)
  rw [Nat.sub_self,List.replicate_zero,List.append_nil]
 have h1:dR (λy=>y==x) l≠-1:=by simpa using h1
 have hge:=(aHV (λy=>y==x) l).1
 obtain⟨n,hn,hin,hx,hb⟩:=oY (λy=>y==x) l (by omega)
 rw [hin]
 have hx:l[n]=x:=by simpa using hx
 obtain⟨hD,hDl⟩:=aAC.start hn hx λj hj=>by simpa using hb j hj
 have hn1:IntKind.i64.wrap ((n:Int)+1)=((n+1:Nat):Int):=by rw [aR (by omega) (by omega)];omega
 refine Wk ?_
 rw [hn1]
 refine⟨Nat×List Int,λp=>aAC l x p.1 p.2,λp=>⟨[(0,⟨[],true,.sl 0 0 l.length⟩),(1,⟨[],true,.fn 338 [.ptr 1 0 0]⟩),(5,⟨[],true,.int .i64 ((wo (l.take p.1) x).length:Int)⟩),(6,⟨[],true,.int .i64 (p.1:Int)⟩)],[(0,.row 1 (aE p.2)),(1,.box [.int .i64 x])],2⟩,λp=>l.length-p.1,⟨(n+1,l),hD,?_⟩,λp hp=>?_⟩
 ·refine bX [some 0,some 1] rfl rfl ?_ rfl ?_ rfl ?_
  repeat' (first |exact trivial |rfl |exact .inl rfl |exact .inr rfl |exact id |exact(λh=>Bool.noConfusion h)|refine And.intro ?_ ?_)
  show(n:Int)=((wo (l.take (n+1)) x).length:Int)
  rw [hDl]
 obtain⟨j,R⟩:=p
 have hp:aAC l x j R:=hp
 dsimp only
 have hle:=hp.le
 have hlen:=hp.len
 have hwl:=sU l x j
 refine Wk ?_
 refine aC (λh2=>?_) (λh2=>?_)<;> try simp only [zC,zA,zD,zE,zG] at h2
 ·have h2:j<l.length:=by simp at h2;omega
  have hj1:IntKind.i64.wrap ((j:Int)+1)=((j+1:Nat):Int):=by rw [aR (by omega) (by omega)];omega
  have hRj:=hp.getj h2
  have hskip:=λh=>hp.skip h2 h
  have hkeep:=λh=>hp.keep h2 h
  have ws:=aDB (x:=x) h2
  have wk:=aJ0 (x:=x) h2
  refine Wk ?_
  first |refine aB (⟨by omega,by omega⟩) ?_ |refine aH (λ_=>⟨by omega,by omega⟩) ?_ |refine⟨λ_=>⟨by omega,by omega⟩,?_⟩
  refine Wk ?_
  first |refine aB (by rw [aA,zH];omega) ?_ |refine aH (λ_=>by rw [aA,zH];omega) ?_ |refine⟨λ_=>by rw [aA,zH];omega,?_⟩
  refine Wk ?_
  rw [Nat.zero_add,zH,bN R j (by omega),hRj]
  refine Wk ?_
  refine⟨call83,.inl ⟨.bool (l[j]==x),λ_=>⟨?_,bC7 l[j] x⟩,.inr rfl,?_⟩⟩
  ·intro v hv
   have hv:v∈ [V.int .i64 l[j],V.ptr 1 0 0]:=hv
   rcases List.mem_cons.1 hv with rfl |hv
   ·exact trivial
   ·obtain rfl:=List.mem_singleton.1 hv
    exact⟨rfl,rfl⟩
  refine Wk ?_
  refine aC (λh3=>?_) (λh3=>?_)<;> try simp only [zC,zA,zD,zE,zG] at h3
  ·have h3:l[j]≠x:=by simpa using h3
   have hkeep:=hkeep h3
   have wk:=wk h3
   generalize wo (l.take j) x=K at hkeep wk hwl⊢
   refine Wk ?_
   first |refine aB (⟨by omega,by omega⟩) ?_ |refine aH (λ_=>⟨by omega,by omega⟩) ?_ |refine⟨λ_=>⟨by omega,by omega⟩,?_⟩
   refine Wk ?_
   first |refine aB (by rw [aA,zH];omega) ?_ |refine⟨by rw [aA,zH];omega,?_⟩
   refine Wk ?_
   rw [hj1,aR (n:=(K.length:Int)+1) (by omega) (by omega)]
   refine⟨(j+1,R.set K.length l[j]),hkeep,?_,by show l.length- (j+1)<l.length-j;omega⟩
   refine bX [some 0,some 1] rfl rfl ?_ rfl ?_ rfl ?_
   repeat' (first |exact trivial |rfl |exact .inl rfl |exact .inr rfl |exact id |exact(λh=>Bool.noConfusion h)|refine And.intro ?_ ?_)
   ·rw [Nat.zero_add,zH,bN R K.length (by omega),aE,aE,List.map_set]
    rfl
   ·show(K.length:Int)+1=((wo (l.take (j+1)) x).length:Int)
    rw [wk,zF,zS];omega
  have h3:l[j]=x:=by simpa using h3
  have hskip:=hskip h3
  have ws:=ws h3
  refine Wk ?_
  rw [hj1]
  refine⟨(j+1,R),hskip,?_,by show l.length- (j+1)<l.length-j;omega⟩
  dsimp only
  rw [ws]
  exact Vw [some 0,some 1]
 have h2:j=l.length:=by simp at h2;omega
 subst h2
 have hkept:=hp.kept
 rw [zK,hk] at hkept hwl⊢
 refine Wk ?_
 first |refine aB (⟨by omega,by omega,by omega⟩) ?_ |refine aH (λ_=>⟨by omega,by omega,by omega⟩) ?_ |refine⟨λ_=>⟨by omega,by omega,by omega⟩,?_⟩
 refine Wk ?_
 have e1:((l.length:Int)).toNat- ((q.length:Int)).toNat=l.length-q.length:=by omega
 first |refine aB (by rw [aA];omega) ?_ |refine⟨by rw [aA];omega,?_⟩
 refine Wk ?_
 first |refine aB (⟨by omega,by omega,by omega⟩) ?_ |refine aH (λ_=>⟨by omega,by omega,by omega⟩) ?_ |refine⟨λ_=>⟨by omega,by omega,by omega⟩,?_⟩
 refine Wk ?_
 try subst hk
 refine⟨[some 0,some 1],?_,rfl,?_,rfl,?_⟩
 all_goals repeat' (first |exact trivial |rfl |exact .inl rfl |exact .inr rfl |exact id |exact(λh=>Bool.noConfusion h)|refine And.intro ?_ ?_)
 have e2:(0+((wo l x).length:Int).toNat)=(wo l x).length:=by omega
 rw [e1,e2,bNI,aE,aE,aE,List.drop_of_length_le (by rw [List.length_map];omega),List.append_nil,List.map_append,<-zV,hkept]
theorem aGN(l:List Int)(t:Bool)(x:Int)(hl:l.length<=100000):aM Tryz.prog 288 [] [.lst 1 t (aE l),.int .i64 x] (.lst 1 false (aE (wo l x))) []:=by
 refine aF (ob0:= []) [] Tryz.func288 rfl rfl rfl rfl ?_
 generalize hk:wo l x=q
 have hwl:=aO8 l x
 refine Wk ?_
 refine .inr ⟨λ_=>⟨[],_,_,_,uB (aE l) t (by rw [aA];omega),trivial,rfl,rfl,rfl,?_⟩,(by intro h;cases h)⟩
 rw [aA]
 refine Wk ?_
 refine .inr ⟨λ_=>⟨[1,0],_,_,_,bJ0 l x hl,⟨rfl,rfl,trivial⟩,rfl,rfl,rfl,?_⟩,(by intro h;cases h)⟩
 rw [hk] at hwl⊢
 refine Wk ?_
 refine⟨[],trivial,rfl,trivial,rfl,?_⟩
 try subst hk
 repeat' (first |exact trivial |rfl |exact .inl rfl |exact .inr rfl |exact id |exact(λh=>Bool.noConfusion h)|refine And.intro ?_ ?_)
 ·show 0+(wo l x).length<=_
  rw [aA,zF];omega
 ·show((aE (wo l x++zN (l.length- (wo l x).length) 0)).drop 0).take (wo l x).length=aE (wo l x)
  rw [List.drop_zero,aE,<-zV,List.take_append_of_le_length (Nat.le_refl _),zK]
  rfl
theorem aV7(l:List Int)(t:Bool)(x:Int)(hl:l.length<=100000):aM Tryz.prog 241 [] [.lst 1 t (aE l),.int .i64 x] (.lst 1 false (aE (x::wo l x))) []:=by
 have hwl:=aO8 l x
 refine aF (ob0:= []) [] Tryz.func241 rfl rfl rfl rfl ?_
 refine cC (aGN l t x hl) ?_
 rw [aA]
 first |refine bG (by show((1+(wo l x).length:Nat):Int)<=_;omega) (by show(1+(wo l x).length)*8<=_;omega) ?_ |refine aB ⟨by show((1+(wo l x).length:Nat):Int)<=_;omega,by show(1+(wo l x).length)*8<=_;omega⟩ ?_ |refine⟨by show((1+(wo l x).length:Nat):Int)<=_;omega,by show(1+(wo l x).length)*8<=_;omega,?_⟩
 refine Wk ?_
 refine⟨[],trivial,rfl,trivial,rfl,?_⟩
 try subst hk
 repeat' (first |exact trivial |rfl |exact .inl rfl |exact .inr rfl |exact id |exact(λh=>Bool.noConfusion h)|refine And.intro ?_ ?_)
 ·show 0+(1+(wo l x).length)<=([[V.int .i64 x]]++aE (wo l x)).length
  rw [zF,aA];simp
 ·show zZ (1+(wo l x).length) (yA 0 ([[V.int .i64 x]]++aE (wo l x)))=aE (x::wo l x)
  exact dB (by rw [zF,aA];simp)
end Go.Proofs.YtmhapcbjjpadnaaGreat
namespace Go.Proofs.YtmhapcbjjpadnaaGreat
open Go Go.Sk Go.RowKit
structure Ls where
 A:List Int
 I:List Int
 R:List Int
def Ls.c(l:Ls):List V:= [.lst 1 false (aE l.A),.lst 1 false (aE l.I),.lst 1 false (aE l.R)]
structure eL(l:Ls):Prop where
 a:l.A.length<=10000
 i:l.I.length<=10000
 r:l.R.length<=10000
theorem aV4(l:Ls)(hl:eL l):aM Tryz.prog 238 [] [.agg l.c] (.agg l.c) []:=by
 have h1:=hl.a;have h2:=hl.i;have h3:=hl.r
 refine aF (ob0:= []) [] Tryz.func238 rfl rfl rfl rfl ?_
 refine Wk ?_
 refine .inr ⟨λ_=>⟨[],_,_,_,uB (aE l.A) false (by rw [aA];omega),trivial,rfl,rfl,rfl,?_⟩,(by intro h;cases h)⟩
 rw [aA]
 refine Wk ?_
 refine .inr ⟨λ_=>⟨[],_,_,_,uB (aE l.I) false (by rw [aA];omega),trivial,rfl,rfl,rfl,?_⟩,(by intro h;cases h)⟩
 rw [aA]
 refine Wk ?_
 refine .inr ⟨λ_=>⟨[],_,_,_,uB (aE l.R) false (by rw [aA];omega),trivial,rfl,rfl,rfl,?_⟩,(by intro h;cases h)⟩
 rw [aA]
 refine Wk ?_
 refine⟨[],trivial,rfl,trivial,rfl,?_⟩
 try subst hk
 repeat' (first |exact trivial |rfl |exact .inl rfl |exact .inr rfl |exact id |exact(λh=>Bool.noConfusion h)|refine And.intro ?_ ?_)
 ·show 0+l.A.length<=_
  rw [aA];omega
 ·exact dB (aA _)
 ·show 0+l.I.length<=_
  rw [aA];omega
 ·exact dB (aA _)
 ·show 0+l.R.length<=_
  rw [aA];omega
 ·exact dB (aA _)
theorem bEM(l:Ls)(hl:eL l):aM Tryz.prog 238 [] [.agg l.c] (.agg [.lst 1 false (aE l.A),.lst 1 false (aE l.I),.sl 0 0 l.R.length]) [.row 1 (aE l.R)]:=by
 have h1:=hl.a;have h2:=hl.i;have h3:=hl.r
 refine aF (ob0:= []) [] Tryz.func238 rfl rfl rfl rfl ?_
 refine Wk ?_
 refine .inr ⟨λ_=>⟨[],_,_,_,uB (aE l.A) false (by rw [aA];omega),trivial,rfl,rfl,rfl,?_⟩,(by intro h;cases h)⟩
 rw [aA]
 refine Wk ?_
 refine .inr ⟨λ_=>⟨[],_,_,_,uB (aE l.I) false (by rw [aA];omega),trivial,rfl,rfl,rfl,?_⟩,(by intro h;cases h)⟩
 rw [aA]
 refine Wk ?_
 refine .inr ⟨λ_=>⟨[],_,_,_,uB (aE l.R) false (by rw [aA];omega),trivial,rfl,rfl,rfl,?_⟩,(by intro h;cases h)⟩
 rw [aA]
 refine Wk ?_
 try subst hk
 refine⟨[some 2176],?_,rfl,?_,rfl,?_⟩
 all_goals repeat' (first |exact trivial |rfl |exact .inl rfl |exact .inr rfl |exact id |exact(λh=>Bool.noConfusion h)|refine And.intro ?_ ?_)
 ·show 0+l.A.length<=_
  rw [aA];omega
 ·exact dB (aA _)
 ·show 0+l.I.length<=_
  rw [aA];omega
 ·exact dB (aA _)
def bJ(b:Nat->Bool):Nat->Bool
 |0=>true
 |n+1=>bJ b n&& !b n
theorem jX {b:Nat->Bool} :∀ {n i:Nat},i<n->bJ b n=true->b i=false
 |0,_,h,_=>by omega
 |n+1,i,h,h1=>by
  simp only [bJ,zL,zD] at h1
  by_cases e:i=n
  ·subst e;exact h1.2
  ·exact jX (n:=n) (by omega) h1.1
theorem dV {b:Nat->Bool} {n i:Nat} (h:i<n)(hb:b i=true):bJ b n=false:=by
 cases ha:bJ b n with
 |false=>rfl
 |true=>rw [jX h ha] at hb;cases hb
theorem qM {b:Nat->Bool} :∀ {n:Nat},(∀i,i<n->b i=false)->bJ b n=true
 |0,_=>rfl
 |n+1,h=>by simp only [bJ,qM (n:=n) λi hi=>h i (by omega),h n (by omega)];rfl
def aCJ(all:List Int)(i:Nat):Bool:= !cG (all.getD i 0)||decide (all.getD i 0∈all.take i)
def aDI(all R:List Int)(i:Nat):Bool:= !decide (R.getD i 0∈all)||(decide (0< (i:Int))&&decide (R.getD i 0<=R.getD (i-1) 0))
def fJ(l:Ls):Bool:=bJ (aCJ (l.A++l.I)) (l.A++l.I).length&&bJ (aDI (l.A++l.I) l.R) l.R.length
end Go.Proofs.YtmhapcbjjpadnaaGreat
namespace Go.Proofs.YtmhapcbjjpadnaaGreat
open Go Go.Sk Go.RowKit
theorem aKL(f:Int):(decide (f<1)||decide (64<f))= !cG f:=by
 unfold cG
 by_cases h1:f<1 <;> by_cases h2:64<f <;> simp [h1,h2] <;> omega
theorem aA2(a b:List Int):aE a++aE b=aE (a++b):=by rw [aE,aE,aE,List.map_append]
theorem bBI(l:Ls)(hl:eL l):aM Tryz.prog 231 [] [.agg l.c] (.bool (fJ l)) []:=by
 have h1:=hl.a;have h2:=hl.i;have h3:=hl.r
 have hall:(l.A++l.I).length<=20000:=by rw [zF];omega
 refine aF (ob0:= []) [] Tryz.func231 rfl rfl rfl rfl ?_
 generalize hk:fJ l=q
 refine Wk ?_
 refine .inr ⟨λ_=>⟨[],_,_,_,uB (aE l.A) false (by rw [aA];omega),trivial,rfl,rfl,rfl,?_⟩,(by intro h;cases h)⟩
 rw [aA]
 refine Wk ?_
 first |refine aB (by rw [aA]) (bG (by rw [aA,aA];omega) (by rw [aA,aA];omega) ?_)|refine aB ⟨by rw [aA],by rw [aA,aA];omega,by rw [aA,aA];omega⟩ ?_ |refine⟨by rw [aA],by rw [aA,aA];omega,by rw [aA,aA];omega,?_⟩
 refine Wk ?_
 have hn:((aE l.A).length+(aE l.I).length:Nat)=(l.A++l.I).length:=by rw [aA,aA,zF]
 rw [hn,aA2]
 rw [fJ] at hk
 generalize l.A++l.I=all at hk hall⊢
 refine⟨Nat×List (List Int×V),λp=>(p.1<=all.length/\bJ (aCJ all) p.1=true)/\∀f,fM p.2 [f] (.bool false)=.bool (decide (f∈all.take p.1)),λp=>⟨[(1,⟨[],true,.ptr 0 0 0⟩),(3,⟨[],true,.mp 1⟩),(14,⟨[],true,.lst 1 false (aE all)⟩),(15,⟨[],true,.int .i64 (all.length:Int)⟩),(16,⟨[],true,.int .i64 (p.1:Int)⟩)],
  [(0,.box l.c),(1,.mp (1,p.2))],2⟩,λp=>all.length-p.1,⟨(0,[]),⟨⟨by simp,rfl⟩,λf=>by simp [fM]⟩,?_⟩,λp hp=>?_⟩
 ·refine bX [some 0,some 1] rfl rfl ?_ rfl ?_ rfl ?_
  repeat' (first |exact trivial |rfl |exact .inl rfl |exact .inr rfl |exact id |exact(λh=>Bool.noConfusion h)|refine And.intro ?_ ?_)
  ·show 0+all.length<=_
   rw [aA];omega
  ·exact dB (aA _)
 obtain⟨i,M⟩:=p
 obtain⟨⟨hp1,hp2⟩,hM⟩:=hp
 dsimp only at hp1 hp2 hM⊢
 refine Wk ?_
 refine aC (λb1=>?_) (λb1=>?_)<;> try simp only [zC,zA,zD,zE,zG] at b1
 ·have b1:i<all.length:=by simp at b1;omega
  have hi1:IntKind.i64.wrap ((i:Int)+1)=((i+1:Nat):Int):=by rw [aR (by omega) (by omega)];omega
  refine Wk ?_
  first |refine aB (⟨rfl,by omega,by rw [aA];omega⟩) ?_ |refine aH (λ_=>⟨rfl,by omega,by rw [aA];omega⟩) ?_ |refine⟨λ_=>⟨rfl,by omega,by rw [aA];omega⟩,?_⟩
  rw [dX all i b1]
  have hbd:aCJ all i=(!cG (all.getD i 0)||decide (all.getD i 0∈all.take i)):=rfl
  have hmem:∀y,y∈all.take (i+1)↔y∈all.take i\/y=all.getD i 0:=λy=>by
   rw [zI b1,List.mem_append,List.mem_singleton,fI all i b1]
  generalize all.getD i 0=f at hbd hmem⊢
  refine cC (bC1 f) ?_
  rw [hM f]
  refine Wk ?_
  refine aC (λb2=>?_) (λb2=>?_)<;> try simp only [zC,zA,zD,zE,zG] at b2
  ·have b2:aCJ all i=true:=by rw [hbd,<-b2]
   rw [dV b1 b2] at hk
   have hk:q=false:=by rw [<-hk];rfl
   subst hk
   refine Wk ?_
   try subst hk
   exact Lf
  have b2:aCJ all i=false:=by rw [hbd,<-b2]
  refine Wk ?_
  rw [hi1]
  refine⟨(i+1,iH M [f] (.bool true)),⟨⟨by show i+1<=_;omega,by show bJ (aCJ all) (i+1)=true;simp only [bJ,hp2,b2];rfl⟩,λy=>?_⟩,?_,by show all.length- (i+1)<all.length-i;omega⟩
  ·show fM (iH M [f] (.bool true)) [y] (.bool false)=.bool (decide (y∈all.take (i+1)))
   rw [aGG,hM y]
   simp only [List.cons.injEq,and_true]
   by_cases e:y=f
   ·rw [if_pos e,show decide (y∈all.take (i+1))=true by rw [decide_eq_true_eq,hmem];exact .inr e]
   ·rw [if_neg e]
    congr 1
    exact decide_eq_decide.2 (by rw [hmem];exact⟨.inl,λh=>h.resolve_right e⟩)
  exact Vw [some 0,some 1]
 have b1:i=all.length:=by simp at b1;omega
 subst b1
 rw [zK] at hM
 rw [hp2,zU] at hk
 refine Wk ?_
 rw [aA]
 refine⟨Nat,λj=>j<=l.R.length/\bJ (aDI all l.R) j=true,λj=>⟨[(1,⟨[],true,.ptr 0 0 0⟩),(3,⟨[],true,.mp 1⟩),(32,⟨[],true,.lst 1 false (aE l.R)⟩),(33,⟨[],true,.int .i64 (l.R.length:Int)⟩),(34,⟨[],true,.int .i64 (j:Int)⟩)],
  [(0,.box l.c),(1,.mp (1,M))],2⟩,λj=>l.R.length-j,⟨0,⟨by omega,rfl⟩,?_⟩,λj hj=>?_⟩
 ·exact Vw [some 0,some 1]
 obtain⟨hj1,hj2⟩:=hj
 refine Wk ?_
 refine aC (λc1=>?_) (λc1=>?_)<;> try simp only [zC,zA,zD,zE,zG] at c1
 ·have c1:j<l.R.length:=by simp at c1;omega
  have hj3:IntKind.i64.wrap ((j:Int)+1)=((j+1:Nat):Int):=by rw [aR (by omega) (by omega)];omega
  refine Wk ?_
  first |refine aB (⟨rfl,by omega,by rw [aA];omega⟩) ?_ |refine aH (λ_=>⟨rfl,by omega,by rw [aA];omega⟩) ?_ |refine⟨λ_=>⟨rfl,by omega,by rw [aA];omega⟩,?_⟩
  rw [dX l.R j c1]
  refine Wk ?_
  rw [hM]
  refine Wk ?_
  rw [vY j (by omega),pP j (by omega)]
  first |refine aH (λhg=>⟨rfl,?_,by rw [aA];omega⟩) ?_ |refine⟨λhg=>⟨rfl,?_,by rw [aA];omega⟩,?_⟩
  ·simp only [zL,decide_eq_true_eq] at hg;omega
  rw [bN l.R (j-1) (by omega),fI l.R (j-1) (by omega)]
  refine Wk ?_
  have hbd:aDI all l.R j=(!decide (l.R.getD j 0∈all)||(decide (0< (j:Int))&&decide (l.R.getD j 0<=l.R.getD (j-1) 0))):=rfl
  refine aC (λc2=>?_) (λc2=>?_)<;> try simp only [zC,zA,zD,zE,zG] at c2
  ·have c2:aDI all l.R j=true:=by rw [hbd,<-c2]
   rw [dV c1 c2] at hk
   subst hk
   refine Wk ?_
   try subst hk
   exact Lf
  have c2:aDI all l.R j=false:=by rw [hbd,<-c2]
  refine Wk ?_
  rw [hj3]
  refine⟨j+1,⟨by show j+1<=_;omega,by simp only [bJ,hj2,c2];rfl⟩,?_,by show l.R.length- (j+1)<l.R.length-j;omega⟩
  exact Vw [some 0,some 1]
 have c1:j=l.R.length:=by simp at c1;omega
 rw [<-c1,hj2] at hk
 subst hk
 refine Wk ?_
 try subst hk
 exact Lf
end Go.Proofs.YtmhapcbjjpadnaaGreat
namespace Go.Proofs.YtmhapcbjjpadnaaGreat
open Go Go.Sk Go.RowKit
theorem aUT(l:Ls)(hl:eL l):aM Tryz.prog 195 [] [.agg l.c] (.bool (fJ l)) []:=by
 have h1:=hl.a;have h2:=hl.i;have h3:=hl.r
 have hall:(l.A++l.I).length<=20000:=by rw [zF];omega
 refine aF (ob0:= []) [] Tryz.func195 rfl rfl rfl rfl ?_
 generalize hk:fJ l=q
 refine Wk ?_
 first |refine bG (by rw [aA];omega) (by rw [aA];omega) ?_ |refine aB ⟨by rw [aA];omega,by rw [aA];omega⟩ ?_ |refine⟨by rw [aA];omega,by rw [aA];omega,?_⟩
 refine Wk ?_
 first |refine bG (by rw [aA,aA];omega) (by rw [aA,aA];omega) ?_ |refine aB ⟨by rw [aA,aA];omega,by rw [aA,aA];omega⟩ ?_ |refine⟨by rw [aA,aA];omega,by rw [aA,aA];omega,?_⟩
 refine Wk ?_
 have hn:((aE l.A).length+(aE l.I).length:Nat)=(l.A++l.I).length:=by rw [aA,aA,zF]
 rw [hn,aA2]
 rw [fJ] at hk
 generalize l.A++l.I=all at hk hall⊢
 refine⟨Nat,λi=>i<=all.length/\bJ (aCJ all) i=true,λi=>⟨[(1,⟨[],true,.ptr 0 0 0⟩),(3,⟨[],true,.lst 1 false (aE all)⟩),(4,⟨[],true,.int .i64 (i:Int)⟩)],
  [(0,.box l.c)],1⟩,λi=>all.length-i,⟨0,⟨by omega,rfl⟩,?_⟩,λi hi=>?_⟩
 ·refine bX [some 0] rfl rfl ?_ rfl ?_ rfl ?_
  repeat' (first |exact trivial |rfl |exact .inl rfl |exact .inr rfl |exact id |exact(λh=>Bool.noConfusion h)|refine And.intro ?_ ?_)
  ·show 0+all.length<=_
   rw [aA];omega
  ·exact dB (aA _)
 obtain⟨hp1,hp2⟩:=hi
 refine Wk ?_
 rw [aA]
 refine aC (λb1=>?_) (λb1=>?_)<;> try simp only [zC,zA,zD,zE,zG] at b1
 ·have b1:i<all.length:=by simp at b1;omega
  have hi1:IntKind.i64.wrap ((i:Int)+1)=((i+1:Nat):Int):=by rw [aR (by omega) (by omega)];omega
  refine Wk ?_
  first |refine aB (⟨rfl,by omega,by rw [aA];omega⟩) ?_ |refine aH (λ_=>⟨rfl,by omega,by rw [aA];omega⟩) ?_ |refine⟨λ_=>⟨rfl,by omega,by rw [aA];omega⟩,?_⟩
  rw [dX all i b1]
  refine Wk ?_
  first |refine aB (⟨rfl,by omega,by rw [aA];omega⟩) ?_ |refine aH (λ_=>⟨rfl,by omega,by rw [aA];omega⟩) ?_ |refine⟨λ_=>⟨rfl,by omega,by rw [aA];omega⟩,?_⟩
  rw [dX all i b1]
  refine Wk ?_
  first |refine aB (⟨.inl rfl,zY _,by omega,by rw [aA];omega⟩) ?_ |refine aH (λ_=>⟨.inl rfl,zY _,by omega,by rw [aA];omega⟩) ?_ |refine⟨λ_=>⟨.inl rfl,zY _,by omega,by rw [aA];omega⟩,?_⟩
  rw [show yA (Int.toNat 0) (zZ ((i:Int)).toNat (aE all))=aE (all.take i) by rw [zH,aE,aE,zV];rfl]
  refine Wk ?_
  first |refine aB (⟨rfl,by omega,by rw [aA];omega⟩) ?_ |refine aH (λ_=>⟨rfl,by omega,by rw [aA];omega⟩) ?_ |refine⟨λ_=>⟨rfl,by omega,by rw [aA];omega⟩,?_⟩
  rw [dX all i b1]
  have hbd:aCJ all i=(!cG (all.getD i 0)||decide (all.getD i 0∈all.take i)):=rfl
  generalize all.getD i 0=f at hbd⊢
  have hlt:((all.take i).length:Int)<2^62:=by rw [zP];omega
  refine cC (aGL (all.take i) false f hlt) ?_
  rw [atM]
  have e:(bif bif decide (f<1) then true else decide (64<f) then true else decide (f∈all.take i))=aCJ all i:=by
   rw [hbd,<-aKL];rfl
  rw [e]
  refine aC (λb2=>?_) (λb2=>?_)<;> try simp only [zC,zA,zD,zE,zG] at b2
  ·rw [dV b1 b2] at hk
   have hk:q=false:=by rw [<-hk];rfl
   subst hk
   refine Wk ?_
   try subst hk
   exact Lf
  refine Wk ?_
  rw [hi1]
  refine⟨i+1,⟨by show i+1<=_;omega,by simp only [bJ,hp2,b2];rfl⟩,?_,by show all.length- (i+1)<all.length-i;omega⟩
  exact Vw [some 0]
 have b1:i=all.length:=by simp at b1;omega
 subst b1
 rw [hp2,zU] at hk
 refine Wk ?_
 refine⟨Nat,λj=>j<=l.R.length/\bJ (aDI all l.R) j=true,λj=>⟨[(1,⟨[],true,.ptr 0 0 0⟩),(3,⟨[],true,.lst 1 false (aE all)⟩),(5,⟨[],true,.int .i64 (j:Int)⟩)],
  [(0,.box l.c)],1⟩,λj=>l.R.length-j,⟨0,⟨by omega,rfl⟩,?_⟩,λj hj=>?_⟩
 ·exact Vw [some 0]
 obtain⟨hj1,hj2⟩:=hj
 refine Wk ?_
 rw [aA]
 refine aC (λc1=>?_) (λc1=>?_)<;> try simp only [zC,zA,zD,zE,zG] at c1
 ·have c1:j<l.R.length:=by simp at c1;omega
  have hj3:IntKind.i64.wrap ((j:Int)+1)=((j+1:Nat):Int):=by rw [aR (by omega) (by omega)];omega
  refine Wk ?_
  first |refine aB (⟨rfl,by omega,by rw [aA];omega⟩) ?_ |refine aH (λ_=>⟨rfl,by omega,by rw [aA];omega⟩) ?_ |refine⟨λ_=>⟨rfl,by omega,by rw [aA];omega⟩,?_⟩
  rw [dX l.R j c1]
  refine cC (aGL all false (l.R.getD j 0) (by omega)) ?_
  first |refine aB (⟨rfl,by omega,by rw [aA];omega⟩) ?_ |refine aH (λ_=>⟨rfl,by omega,by rw [aA];omega⟩) ?_ |refine⟨λ_=>⟨rfl,by omega,by rw [aA];omega⟩,?_⟩
  rw [dX l.R j c1]
  refine Wk ?_
  rw [vY j (by omega),pP j (by omega)]
  first |refine aH (λhg=>⟨rfl,?_,by rw [aA];omega⟩) ?_ |refine⟨λhg=>⟨rfl,?_,by rw [aA];omega⟩,?_⟩
  ·simp only [zL,decide_eq_true_eq] at hg;omega
  rw [bN l.R (j-1) (by omega),fI l.R (j-1) (by omega)]
  refine Wk ?_
  rw [atN]
  have e:(bif decide (l.R.getD j 0∉all) then true else bif decide (0< (j:Int)) then decide (l.R.getD j 0<=l.R.getD (j-1) 0) else false)=aDI all l.R j:=by
   rw [aDI,decide_not];cases decide (l.R.getD j 0∈all)<;> cases decide (0< (j:Int))<;> rfl
  rw [e]
  refine aC (λc2=>?_) (λc2=>?_)<;> try simp only [zC,zA,zD,zE,zG] at c2
  ·rw [dV c1 c2] at hk
   subst hk
   refine Wk ?_
   try subst hk
   exact Lf
  refine Wk ?_
  rw [hj3]
  refine⟨j+1,⟨by show j+1<=_;omega,by simp only [bJ,hj2,c2];rfl⟩,?_,by show l.R.length- (j+1)<l.R.length-j;omega⟩
  exact Vw [some 0]
 have c1:j=l.R.length:=by simp at c1;omega
 rw [<-c1,hj2] at hk
 subst hk
 refine Wk ?_
 try subst hk
 exact Lf
end Go.Proofs.YtmhapcbjjpadnaaGreat
