/- Caches. -/
import Derived.Test.YtmhapcbjjpadnaaGreatIAe
import Derived.Test.YtmhapcbjjpadnaaGreatGMb
import Derived.Test.YtmhapcbjjpadnaaGreatXRKb
set_option linter.all false
set_option maxHeartbeats 4000000
set_option maxRecDepth 40000
namespace Go.Proofs.YtmhapcbjjpadnaaGreat
open Go Go.Sk Go.RowKit
theorem call271:fY Tryz.prog 271:=⟨_,Tryz.func271,rfl,rfl⟩
theorem rightP_iff {p:Pt} (h:eC p=true):(0<=p.proc/\p.proc<8)/\(0<=p.page/\p.page<64)/\1<=p.frame/\p.frame<=64:=by
 unfold eC at h
 by_cases h1:0<=p.proc
 ·by_cases h2:p.proc<8
  ·by_cases h3:0<=p.page
   ·by_cases h4:p.page<64
    ·by_cases h5:1<=p.frame
     ·by_cases h6:p.frame<=64
      ·exact⟨⟨h1,h2⟩,⟨h3,h4⟩,h5,h6⟩
      ·simp [h1,h2,h3,h4,h5,h6] at h
     ·simp [h1,h2,h3,h4,h5] at h
    ·simp [h1,h2,h3,h4] at h
   ·simp [h1,h2,h3] at h
  ·simp [h1,h2] at h
 ·simp [h1] at h
theorem cmpP_lt {a b:Pt} (ha:eC a=true)(hb:eC b=true):(aXP a b<0↔dS a<dS b)/\(aXP a b=0↔dS a=dS b):=by
 obtain⟨a1,a2,-⟩:=rightP_iff ha
 obtain⟨b1,b2,-⟩:=rightP_iff hb
 have cz:∀x y:Int,(x<y/\aMR x y= -1)\/(x=y/\aMR x y=0)\/(y<x/\aMR x y=1):=λx y=>by
  unfold aMR
  rcases Int.lt_trichotomy x y with h |h |h
  ·exact .inl ⟨h,by rw [decide_eq_true h];rfl⟩
  ·exact .inr (.inl ⟨h,by rw [decide_eq_false (by omega),decide_eq_false (by omega)];rfl⟩)
  ·exact .inr (.inr ⟨h,by rw [decide_eq_false (by omega),decide_eq_true h];rfl⟩)
 unfold aXP dS
 rcases cz a.proc b.proc with ⟨h,e⟩| ⟨h,e⟩| ⟨h,e⟩
 ·rw [e];show((-1:Int)<0↔_)/\((-1:Int)=0↔_);omega
 ·rw [e]
  show(aMR a.page b.page<0↔_)/\(aMR a.page b.page=0↔_)
  rcases cz a.page b.page with ⟨k,e2⟩| ⟨k,e2⟩| ⟨k,e2⟩<;> rw [e2] <;> omega
 ·rw [e];show((1:Int)<0↔_)/\((1:Int)=0↔_);omega
def bsI(l:List Pt)(e:Pt):Nat:=(l.filter λx=>decide (dS x<dS e)).length
def bsB(l:List Pt)(e:Pt):Bool:=bif decide ((bsI l e:Int)< (l.length:Int)) then aXP (l.getD (bsI l e) p0) e==0 else false
theorem chkT_keys {l:List Pt} (h:kQ l=true):(∀i,i<l.length->eC (l.getD i p0)=true)/\∀a b,a<b->b<l.length->dS (l.getD a p0)<dS (l.getD b p0):=by
 obtain⟨c1,c2⟩:=(lT l).1 h
 have e:∀i (hi:i<l.length),l.getD i p0=l[i]:=λi hi=>by simp [List.getD_eq_getElem?_getD,hi]
 refine⟨λi hi=>by rw [e i hi];exact c1 _ (List.getElem_mem hi),λa b h1 h2=>?_⟩
 rw [e a (by omega),e b h2]
 exact List.pairwise_iff_getElem.1 c2 a b (by omega) h2 h1
theorem bsI_at {l:List Pt} {e:Pt} {i:Nat} (hi:i<=l.length)(h1:∀k,k<i->dS (l.getD k p0)<dS e)(h2:∀k,i<=k->k<l.length->¬dS (l.getD k p0)<dS e):bsI l e=i/\l.filter (λx=>decide (dS x<dS e))=l.take i:=by
 have e1:(l.take i).filter (λx=>decide (dS x<dS e))=l.take i:=by
  rw [List.filter_eq_self]
  intro x hx
  obtain⟨k,hk,rfl⟩:=List.getElem_of_mem hx
  rw [List.length_take] at hk
  have :=h1 k (by omega)
  rw [List.getD_eq_getElem?_getD,List.getElem?_eq_getElem (show k<l.length by omega)] at this
  simpa using this
 have e2:(l.drop i).filter (λx=>decide (dS x<dS e))=[]:=by
  rw [List.filter_eq_nil_iff]
  intro x hx
  obtain⟨k,hk,rfl⟩:=List.getElem_of_mem hx
  rw [List.length_drop] at hk
  have :=h2 (i+k) (by omega) (by omega)
  rw [List.getD_eq_getElem?_getD,List.getElem?_eq_getElem (show i+k<l.length by omega)] at this
  simpa using this
 have e3:l.filter (λx=>decide (dS x<dS e))=l.take i:=by
  conv=>lhs;rw [<-List.take_append_drop i l,List.filter_append,e1,e2,List.append_nil]
 exact⟨by unfold bsI;rw [e3,List.length_take];omega,e3⟩
theorem shr1 {i j:Nat} (h:i+j<2^40):IntKind.i64.wrap ((IntKind.u64.wrap ((i:Int)+(j:Int))).fdiv (2^min 1 IntKind.u64.bits))=(((i+j)/2:Nat):Int):=by
 have e1:IntKind.u64.wrap ((i:Int)+(j:Int))=(i:Int)+(j:Int):=by rw [IntKind.wrap_u64];omega
 rw [e1,show min 1 IntKind.u64.bits=1 from rfl,show((2:Int)^1)=2 from rfl,Int.fdiv_eq_ediv_of_nonneg _ (by omega),IntKind.wrap_i64]
 omega
noncomputable def R270:Rsv Tryz.prog Tryz.f270 [] 3:=⟨_,_,rfl,rfl⟩
theorem ok270(l:List Pt)(e:Pt)(hl:l.length<=100000)(hc:kQ l=true)(he:eC e=true):aM Tryz.prog 270 [] [.lst 5 false (aY l),.agg e.c,.fn 271 []] (.tup [.int .i64 (bsI l e:Int),.bool (bsB l e)]) []:=by
 obtain⟨hr,hs⟩:=chkT_keys hc
 refine bE R270 (ob0:= []) Tryz.func270 rfl rfl rfl ?_
 refine Wy ?_
 refine Lp (α:=Nat×Nat) (λx=>x.1<=x.2/\x.2<=l.length/\(∀k,k<x.1->dS (l.getD k p0)<dS e)/\(∀k,x.2<=k->k<l.length->¬dS (l.getD k p0)<dS e)) (λx=> [(9,.int .i64 (x.1:Int)),(10,.int .i64 (x.2:Int))]) (λ_=> []) (λx=>x.2-x.1) (0,l.length) ⟨Nat.zero_le _,Nat.le_refl _,λk hk=>by omega,λk h1 h2=>by omega⟩ ?_ ?_
 ·exact Vr [_]
 rintro ⟨i,j⟩ ⟨h1,h2,h3,h4⟩
 dsimp only at h1 h2 h3 h4⊢
 refine Wy ?_
 refine fP (λb=>?_) (λb=>?_)
 ·have b:i<j:=by omega
  have hg:=iX l ((i+j)/2) (by omega)
  have k271:=bID (l.getD ((i+j)/2) p0) e
  obtain⟨hcm,-⟩:=cmpP_lt (hr ((i+j)/2) (by omega)) he
  have hsh:=shr1 (i:=i) (j:=j) (by omega)
  have up:∀k,k< (i+j)/2->dS (l.getD k p0)<dS (l.getD ((i+j)/2) p0):=λk hk=>hs k _ hk (by omega)
  have down:∀k,(i+j)/2<k->k<l.length->dS (l.getD ((i+j)/2) p0)<dS (l.getD k p0):=λk hk hk2=>hs _ k hk hk2
  generalize aXP (l.getD ((i+j)/2) p0) e=v at *
  generalize hm:(i+j)/2=m at *
  refine Wy ?_
  refine And.intro call271 ?_
  refine Wy ?_
  refine fP (λd=>?_) (λd=>?_)
  ·refine Wy ?_
   refine Le (m+1,j) (hI:=⟨by omega,h2,λk hk=>?_,h4⟩) (hv:=?_)
   ·rcases Nat.lt_or_ge k m with x |x
    ·have :=up k x;have :=hcm.1 d;omega
    ·obtain rfl:k=m:=by omega
     exact hcm.1 d
   ·exact Vr [_]
  ·refine Wy ?_
   refine Le (i,m) (hI:=⟨by omega,by omega,h3,λk hk hk2=>?_⟩) (hv:=?_)
   ·rcases Nat.lt_or_ge m k with x |x
    ·have :=down k x hk2
     have :¬dS (l.getD m p0)<dS e:=λy=>d (hcm.2 y)
     omega
    ·obtain rfl:k=m:=by omega
     exact λy=>d (hcm.2 y)
   ·exact Vr [_]
 ·obtain rfl:i=j:=by omega
  obtain⟨hb,-⟩:=bsI_at h2 h3 h4
  unfold bsB
  rw [hb]
  by_cases hi:i<l.length
  ·rw [decide_eq_true (show(i:Int)< (l.length:Int) by omega),cond_true]
   have hg:=iX l i hi
   have k271:=bID (l.getD i p0) e
   refine Wy ?_
   refine And.intro call271 ?_
   exact jR
  ·rw [decide_eq_false (show ¬(i:Int)< (l.length:Int) by omega),cond_false]
   have hg:(aY l).getD i []=[]:=by simp [aY,List.getD_eq_getElem?_getD,Nat.le_of_not_lt hi]
   refine Wy ?_
   refine And.intro call271 ?_
   exact jR
theorem cut_ex(P:Nat->Prop):∀n,(∀a b,a<b->b<n->P b->P a)->∃i,i<=n/\(∀k,k<i->P k)/\∀k,i<=k->k<n->¬P k
 |0,_=>⟨0,Nat.le_refl _,λk h=>by omega,λk _ h=>by omega⟩
 |n+1,hd=>by
  by_cases h:P n
  ·refine⟨n+1,Nat.le_refl _,λk hk=>?_,λk _ _=>by omega⟩
   by_cases e:k=n
   ·subst e;exact h
   ·exact hd k n (by omega) (by omega) h
  ·obtain⟨i,h1,h2,h3⟩:=cut_ex P n λa b x y=>hd a b x (by omega)
   refine⟨i,by omega,h2,λk hk hk2=>?_⟩
   by_cases e:k=n
   ·subst e;exact h
   ·exact h3 k hk (by omega)
theorem ins_entS {l:List Pt} {e:Pt} (hc:kQ l=true)(he:eC e=true):bsI l e<=l.length/\(bsB l e=false->insT l (bsI l e) e=aY1 l e)/\(bsB l e=true->bsI l e<l.length/\l.set (bsI l e) e=aY1 l e):=by
 obtain⟨hr,hs⟩:=chkT_keys hc
 have ge:∀k (hk:k<l.length),l.getD k p0=l[k]:=λk hk=>by simp [List.getD_eq_getElem?_getD,hk]
 obtain⟨i,hi,h1,h2⟩:=cut_ex (λk=>dS (l.getD k p0)<dS e) l.length λa b hab hb h=>by
  have :=hs a b hab hb;omega
 obtain⟨hb,hf⟩:=bsI_at hi h1 h2
 have gt0:(l.take i).filter (λx=>decide (dS e<dS x))=[]:=by
  rw [List.filter_eq_nil_iff]
  intro x hx
  obtain⟨k,hk,rfl⟩:=List.getElem_of_mem hx
  rw [List.length_take] at hk
  have :=h1 k (by omega)
  rw [ge k (by omega)] at this
  simp;omega
 have gtd:∀n,(∀k,n<=k->k<l.length->dS e<dS (l.getD k p0))->(l.drop n).filter (λx=>decide (dS e<dS x))=l.drop n:=λn h=>by
  rw [List.filter_eq_self]
  intro x hx
  obtain⟨k,hk,rfl⟩:=List.getElem_of_mem hx
  rw [List.length_drop] at hk
  have :=h (n+k) (by omega) (by omega)
  rw [ge (n+k) (by omega)] at this
  simpa using this
 have gts:l.filter (λx=>decide (dS e<dS x))=(l.drop i).filter (λx=>decide (dS e<dS x)):=by
  conv=>lhs;rw [<-List.take_append_drop i l,List.filter_append,gt0,List.nil_append]
 unfold bsB
 rw [hb]
 unfold aY1 insT
 rw [hf,gts]
 refine⟨hi,λh=>?_,λh=>?_⟩
 ·rw [gtd i λk hk hk2=>?_]
  have hlt:i<l.length:=by omega
  rw [decide_eq_true (show(i:Int)< (l.length:Int) by omega),cond_true] at h
  have hne:¬dS (l.getD i p0)=dS e:=λx=>by
   rw [beq_iff_eq.2 ((cmpP_lt (hr i hlt) he).2.2 x)] at h;cases h
  have h3:=h2 i (Nat.le_refl i) hlt
  rcases Nat.lt_or_ge i k with x |x
  ·have :=hs i k x hk2;omega
  ·obtain rfl:k=i:=by omega
   omega
 ·by_cases hlt:i<l.length
  ·rw [decide_eq_true (show(i:Int)< (l.length:Int) by omega),cond_true] at h
   have heq:=(cmpP_lt (hr i hlt) he).2.1 (beq_iff_eq.1 h)
   refine⟨hlt,?_⟩
   rw [List.drop_eq_getElem_cons hlt,List.filter_cons,if_neg (by rw [<-ge i hlt,heq];simp),gtd (i+1) λk hk hk2=>by
    have :=hs i k (by omega) hk2;omega]
   rw [List.set_eq_take_append_cons_drop,if_pos hlt]
  ·rw [decide_eq_false (show ¬(i:Int)< (l.length:Int) by omega),cond_false] at h;cases h
end Go.Proofs.YtmhapcbjjpadnaaGreat
namespace Go.Proofs.YtmhapcbjjpadnaaGreat
open Go Go.Sk Go.RowKit
noncomputable def R174:Rsv Tryz.prog Tryz.f174 [] 2:=⟨_,_,rfl,rfl⟩
theorem ok174(l:List Pt)(e:Pt)(hl:l.length<=512)(hc:kQ l=true)(he:eC e=true):aM Tryz.prog 174 [] [.lst 5 false (aY l),.agg e.c] (.tup [.lst 5 false (aY (aY1 l e)),.int .i64 0]) []:=by
 have k190:=aUR (aY l) false (by rw [aS];omega)
 rw [aS] at k190
 have k232:=bI1 l (by omega)
 rw [hc] at k232
 have k269:=bIC e
 rw [he] at k269
 have k270:=ok270 l e (by omega) hc he
 obtain⟨h1,h2,h3⟩:=ins_entS hc he
 have k272:=ok272 l (bsI l e) e h1 (by omega)
 generalize bsI l e=i at *
 have hT:(aY l).length=l.length:=aS l
 have key:∀b:Bool,aM Tryz.prog 270 [] [.lst 5 false (aY l),.agg e.c,.fn 271 []] (.tup [.int .i64 (i:Int),.bool b]) []->aM Tryz.prog 270 [] [.lst 5 false (((aY l).drop 0).take l.length),.agg e.c,.fn 271 []] (.tup [.int .i64 (i:Int),.bool b]) []:=λb k=>by rw [dB (aS l)];exact k
 cases hb:bsB l e with
 |false=>
  rw [hb] at k270
  rw [h2 hb] at k272
  have k270:=key _ k270
  refine bE R174 (ob0:= []) Tryz.func174 rfl rfl rfl ?_
  refine Wy ?_
  refine .inl ⟨_,λ_=>⟨λv hv=>?_,k270⟩,.inr rfl,?_⟩
  ·rcases List.mem_cons.1 hv with rfl |hv
   ·show 0+l.length<=(aY l).length
    omega
   ·rcases List.mem_cons.1 hv with rfl |hv
    ·exact aPK rfl
    ·obtain rfl:=List.mem_singleton.1 hv
     exact aPK rfl
  refine Wy ?_
  refine .mov ⟨λ_=>⟨[1,17],_,_,_,k272,⟨rfl,rfl,trivial⟩,rfl,rfl,?_⟩,(by intro h;cases h)⟩
  exact jR
 |true=>
  rw [hb] at k270
  obtain⟨h4,h5⟩:=h3 hb
  have k270:=key _ k270
  refine bE R174 (ob0:= []) Tryz.func174 rfl rfl rfl ?_
  refine Wy ?_
  refine .inl ⟨_,λ_=>⟨λv hv=>?_,k270⟩,.inr rfl,?_⟩
  ·rcases List.mem_cons.1 hv with rfl |hv
   ·show 0+l.length<=(aY l).length
    omega
   ·rcases List.mem_cons.1 hv with rfl |hv
    ·exact aPK rfl
    ·obtain rfl:=List.mem_singleton.1 hv
     exact aPK rfl
  have hg:=iX l i h4
  have hset:(aY l).set i (aU 5 (l.getD i p0).c 0 e.c)=aY (aY1 l e):=by
   rw [<-h5];unfold aY;rw [List.map_set];rfl
  have hl5:(aY1 l e).length=l.length:=by rw [<-h5,List.length_set]
  rw [<-hset]
  exact jR
end Go.Proofs.YtmhapcbjjpadnaaGreat
