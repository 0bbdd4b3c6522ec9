/- Caches. -/
import Derived.Test.YtmhapcbjjpadnaaGreatK6b
import Derived.Test.YtmhapcbjjpadnaaGreatK7b
set_option linter.all false
namespace Go.Sk
open Go Go.RowKit
variable [gH]
def aC3:V->Bool
 | .sl _ _ _=>false
 | .slk _ _ _ _=>false
 | .ptr _ _ _=>false
 |_=>true
def aRV:V->Bool
 | .agg cs=>cs.all aC3
 | .fn _ cs=>cs.all aC3
 |v=>aC3 v
theorem aL3 {S:aD} {v:V} (h:aC3 v=true):iQ S v:=by
 cases v <;> first |exact trivial | (simp [aC3] at h)
theorem aPK {S:aD} {v:V} (h:aRV v=true):nM S v:=by
 cases v with
 |agg cs=>intro c hc;exact aL3 (List.all_eq_true.1 h c hc)
 |fn f cs=>intro c hc;exact aL3 (List.all_eq_true.1 h c hc)
 |sl k o l=>simp [aRV,aC3] at h
 |slk k o l c=>simp [aRV,aC3] at h
 |ptr k i c=>simp [aRV,aC3] at h
 |_=>exact trivial
theorem aFG {S:aD} {l:List V} (h:l.all aRV=true):∀v∈l,nM S v:=λv hv=>aPK (List.all_eq_true.1 h v hv)
theorem bX {n0:Nat} {st st':St} (ids:List (Option Nat))(h1:st'.so=aN 0 (st'.so.map Prod.snd))(h2:st'.nx=(st'.so.map Prod.snd).length)(h3:nY st.so ids ids (st'.so.map Prod.snd))(h4:qL ids=true)
 (h5:nF 0 n0 ids) (h6:Nat.ble n0 (st'.so.map Prod.snd).length=true) (h7:aA7 st.sl st.so ids st'.sl):View n0 st st':=⟨ids,_,h1,h2,h3,h4,h5,h6,h7⟩
theorem aR {n:Int} (h: -9223372036854775808<=n:=by omega)(h':n<9223372036854775808:=by omega):IntKind.i64.wrap n=n:=by rw [IntKind.wrap_i64];omega
structure Hd(Q:Prop):Prop where
 h:Q
theorem Wk {G Q:Prop} (q:Q)(h:Hd Q->G:=by
 intro q
 (repeat((conv=>whnf);first |refine Cd.go ?_ |refine⟨rfl,?_⟩|refine aB ⟨.inl rfl,rfl⟩ ?_ |refine aB rfl ?_ |refine⟨Nat.le_of_ble_eq_true rfl,?_⟩|refine⟨.inl rfl,?_⟩|refine⟨λ_=>⟨rfl,Nat.le_of_ble_eq_true rfl⟩,?_⟩|refine⟨λ_=>Nat.le_of_ble_eq_true rfl,?_⟩|refine⟨λh=>Bool.noConfusion h,?_⟩))
 (conv=>whnf)
 exact q.h):G:=h ⟨q⟩
theorem cC {C1 G Q:Prop} (c1:C1)(q:Q)(h:C1->Hd Q->G:=by
 intro c1 q
 (repeat((conv=>whnf);first |refine Cd.go ?_ |refine⟨rfl,?_⟩|refine aB ⟨.inl rfl,rfl⟩ ?_ |refine aB rfl ?_ |refine⟨Nat.le_of_ble_eq_true rfl,?_⟩|refine⟨.inl rfl,?_⟩|refine⟨λ_=>⟨rfl,Nat.le_of_ble_eq_true rfl⟩,?_⟩|refine⟨λ_=>Nat.le_of_ble_eq_true rfl,?_⟩|refine⟨λh=>Bool.noConfusion h,?_⟩|refine .inl ⟨_,λ_=>⟨aFG rfl,(by exact c1)⟩,.inl rfl,?_⟩))
 (conv=>whnf)
 exact q.h):G:=h c1 ⟨q⟩
theorem Wk2 {C1 C2 G Q:Prop} (c1:C1)(c2:C2)(q:Q)(h:C1->C2->Hd Q->G:=by
 intro c1 c2 q
 (repeat((conv=>whnf);first |refine Cd.go ?_ |refine⟨rfl,?_⟩|refine aB ⟨.inl rfl,rfl⟩ ?_ |refine aB rfl ?_ |refine⟨Nat.le_of_ble_eq_true rfl,?_⟩|refine⟨.inl rfl,?_⟩|refine⟨λ_=>⟨rfl,Nat.le_of_ble_eq_true rfl⟩,?_⟩|refine⟨λ_=>Nat.le_of_ble_eq_true rfl,?_⟩|refine⟨λh=>Bool.noConfusion h,?_⟩|refine .inl ⟨_,λ_=>⟨aFG rfl,(by first |exact c1 |exact c2)⟩,.inl rfl,?_⟩))
 (conv=>whnf)
 exact q.h):G:=h c1 c2 ⟨q⟩
theorem Wk3 {C1 C2 C3 G Q:Prop} (c1:C1)(c2:C2)(c3:C3)(q:Q)(h:C1->C2->C3->Hd Q->G:=by
 intro c1 c2 c3 q
 (repeat((conv=>whnf);first |refine Cd.go ?_ |refine⟨rfl,?_⟩|refine aB ⟨.inl rfl,rfl⟩ ?_ |refine aB rfl ?_ |refine⟨Nat.le_of_ble_eq_true rfl,?_⟩|refine⟨.inl rfl,?_⟩|refine⟨λ_=>⟨rfl,Nat.le_of_ble_eq_true rfl⟩,?_⟩|refine⟨λ_=>Nat.le_of_ble_eq_true rfl,?_⟩|refine⟨λh=>Bool.noConfusion h,?_⟩|refine .inl ⟨_,λ_=>⟨aFG rfl,(by first |exact c1 |exact c2 |exact c3)⟩,.inl rfl,?_⟩))
 (conv=>whnf)
 exact q.h):G:=h c1 c2 c3 ⟨q⟩
theorem Wk4 {C1 C2 C3 C4 G Q:Prop} (c1:C1)(c2:C2)(c3:C3)(c4:C4)(q:Q)(h:C1->C2->C3->C4->Hd Q->G:=by
 intro c1 c2 c3 c4 q
 (repeat((conv=>whnf);first |refine Cd.go ?_ |refine⟨rfl,?_⟩|refine aB ⟨.inl rfl,rfl⟩ ?_ |refine aB rfl ?_ |refine⟨Nat.le_of_ble_eq_true rfl,?_⟩|refine⟨.inl rfl,?_⟩|refine⟨λ_=>⟨rfl,Nat.le_of_ble_eq_true rfl⟩,?_⟩|refine⟨λ_=>Nat.le_of_ble_eq_true rfl,?_⟩|refine⟨λh=>Bool.noConfusion h,?_⟩|refine .inl ⟨_,λ_=>⟨aFG rfl,(by first |exact c1 |exact c2 |exact c3 |exact c4)⟩,.inl rfl,?_⟩))
 (conv=>whnf)
 exact q.h):G:=h c1 c2 c3 c4 ⟨q⟩
theorem Lf {G:Prop} (h:G:=by
 refine⟨[],trivial,rfl,trivial,rfl,?_⟩
 repeat' (first |exact trivial |rfl |exact .inl rfl |exact .inr rfl |exact id |exact(λh=>Bool.noConfusion h)|refine And.intro ?_ ?_)):G:=h
theorem Cl {G:Prop} (h:G:=by repeat' (first |exact trivial |rfl |exact .inl rfl |exact .inr rfl |exact id |exact(λh=>Bool.noConfusion h)|refine And.intro ?_ ?_)):G:=h
structure VwP(n0:Nat)(st st':St)(ids:List (Option Nat)):Prop where
 h1:st'.so=aN 0 (st'.so.map Prod.snd)
 h2:st'.nx=(st'.so.map Prod.snd).length
 h3:nY st.so ids ids (st'.so.map Prod.snd)
 h4:qL ids=true
 h5:nF 0 n0 ids
 h6:Nat.ble n0 (st'.so.map Prod.snd).length=true
 h7:aA7 st.sl st.so ids st'.sl
theorem Vw {n0:Nat} {st st':St} (ids:List (Option Nat))(h:VwP n0 st st' ids:=by
 refine⟨rfl,rfl,?_,rfl,?_,rfl,?_⟩
 repeat' (first |exact trivial |rfl |exact .inl rfl |exact .inr rfl |exact id |exact(λh=>Bool.noConfusion h)|refine And.intro ?_ ?_)):View n0 st st':=bX ids h.h1 h.h2 h.h3 h.h4 h.h5 h.h6 h.h7
theorem Vq {n0:Nat} {st st':St} (ids:List (Option Nat))(h:VwP n0 st st' ids:=by
 refine⟨rfl,rfl,?_,?_,?_,?_,?_⟩
 rotate_left 4
 ·repeat' (first |exact trivial |rfl |exact .inl rfl |exact .inr rfl |exact id |exact(λh=>Bool.noConfusion h)|refine And.intro ?_ ?_)
 ·repeat' (first |exact trivial |rfl |exact .inl rfl |exact .inr rfl |exact id |exact(λh=>Bool.noConfusion h)|refine And.intro ?_ ?_)
 ·rfl
 ·repeat' (first |exact trivial |rfl |exact .inl rfl |exact .inr rfl |exact id |exact(λh=>Bool.noConfusion h)|refine And.intro ?_ ?_)
 ·rfl):View n0 st st':=bX ids h.h1 h.h2 h.h3 h.h4 h.h5 h.h6 h.h7
end Go.Sk
namespace Go.Sk
open Go Go.RowKit
variable [gH]
def vQ(v:V)(K:V->Prop):Prop:=
 match v with
 | .int k n=>∃m,n=m/\K (.int k m)
 | .ptr k i c=>∃j,i=j/\K (.ptr k j c)
 | .rp es cs c=>∃r,cs=r/\K (.rp es r c)
 | .sl k off len=>∃p:Nat×Nat,(off,len)=p/\K (.sl k p.1 p.2)
 | .bool b=>∃c,b=c/\K (.bool c)
 |v=>K v
theorem bKW(v:V)(K:V->Prop):vQ v K=K v:=by
 unfold vQ
 split
 all_goals first
  |rfl
  |exact propext ⟨(by rintro ⟨_,rfl,h⟩;exact h),λh=>⟨_,rfl,h⟩⟩
structure OB(C K:Prop):Prop where
 h:C
 k:K
theorem bAC {C K:Prop} :OB C K=(C/\K):=propext ⟨λh=>⟨h.h,h.k⟩,λh=>⟨h.1,h.2⟩⟩
def aYK(P:Program)(ssl:bD)(sso:aD)(snx:Nat)(ch:List (Nat×Bool))(gc:Bool)(i:I)(K:V->aD->Nat->Prop):Prop:=
 match i with
 | .ld agg n x=>match bZ ssl ch x with
   | .ptr k i c=>match sso.get k with
     |some (.row es xs)=>gq gc (decide (i<xs.length)) (∃r,xs.getD i []=r/\rq (decide (c+n<=es)) (K (pM agg es r c n) sso snx))
     |_=>eU P ssl sso snx ch gc (.ld agg n x) K
   |_=>eU P ssl sso snx ch gc (.ld agg n x) K
 | .st m x y=>match ch with
   | []=>match bZ ssl [] x,(bZ ssl [] y).cells? with
     | .ptr k i c,some cs=>match sso.get k with
       |some (.row es xs)=>rq (decide (i<xs.length)) (rq (decide (c+m<=es)) (rq (decide (cs.length=m)) (rq (cs.all cD) (∃r,xs.getD i []=r/\K .any (sso.set k (.row es (xs.set i (aU es r c cs)))) snx))))
       |_=>eU P ssl sso snx [] gc (.st m x y) K
     |_,_=>eU P ssl sso snx [] gc (.st m x y) K
   |g::r=>eU P ssl sso snx (g::r) gc (.st m x y) K
 | .scat x y=>match bZ ssl ch x,bZ ssl ch y with
   | .str a,.str b=>OB (gc=true->a.size+b.size<=9223372036854775807) (K (.str (a++b)) sso snx)
   |_,_=>eU P ssl sso snx ch gc (.scat x y) K
 | .s2b x=>match ch with
   | []=>match bZ ssl [] x with
     | .str s=>OB (s.size<=9223372036854775807) (K (.sl snx 0 s.size) (sso.set snx (.bb s.data.toList)) (snx+1))
     |_=>eU P ssl sso snx [] gc (.s2b x) K
   |g::r=>eU P ssl sso snx (g::r) gc (.s2b x) K
 | .b2s x=>match uZ (bZ ssl ch x) with
   | .sl k off len=>match sso.get k with
     |some (.row 1 xs)=>(∃l,gK ((xs.drop off).take len)=some l/\gq gc (decide (off+len<=xs.length)) (K (.str ⟨l.toArray⟩) sso snx))\/(gK ((xs.drop off).take len)=none/\rq (!gc) (K .any sso snx))
     |_=>eU P ssl sso snx ch gc (.b2s x) K
   |_=>eU P ssl sso snx ch gc (.b2s x) K
 | .bin op x y=>eU P ssl sso snx ch gc (.bin op x y) λv S n=>vQ v λv=>K v S n
 | .conv k x=>eU P ssl sso snx ch gc (.conv k x) λv S n=>vQ v λv=>K v S n
 | .pick c a b=>eU P ssl sso snx ch gc (.pick c a b) λv S n=>vQ v λv=>K v S n
 | .un op x=>eU P ssl sso snx ch gc (.un op x) λv S n=>vQ v λv=>K v S n
 | .iaddr es x i=>eU P ssl sso snx ch gc (.iaddr es x i) λv S n=>vQ v λv=>K v S n
 | .slc es x a b=>eU P ssl sso snx ch gc (.slc es x a b) λv S n=>vQ v λv=>K v S n
 | .len x=>eU P ssl sso snx ch gc (.len x) λv S n=>vQ v λv=>K v S n
 | .app es by_ x y=>eU P ssl sso snx ch gc (.app es by_ x y) λv S n=>vQ v λv=>K v S n
 | .mx x y=>eU P ssl sso snx ch gc (.mx x y) λv S n=>vQ v λv=>K v S n
 | .mn x y=>eU P ssl sso snx ch gc (.mn x y) λv S n=>vQ v λv=>K v S n
 |i=>eU P ssl sso snx ch gc i K
theorem aOX(P:Program)(ssl:bD)(sso:aD)(snx:Nat)(ch:List (Nat×Bool))(gc:Bool)(i:I)(K:V->aD->Nat->Prop):aYK P ssl sso snx ch gc i K=eU P ssl sso snx ch gc i K:=by
 unfold aYK
 split
 ·split
  ·rename_i h1
   split
   ·rename_i h2
    simp only [eU,rdF,h1,h2,aN3]
    exact propext ⟨(by rintro ⟨h3,_,rfl,h⟩;exact⟨h3,h⟩),λh=>⟨h.1,_,rfl,h.2⟩⟩
   ·rfl
  ·rfl
 ·split
  ·split
   ·rename_i h1 h2
    split
    ·rename_i h3
     simp only [eU,rH,wrF,h1,h2,h3,fN]
     exact propext ⟨(by rintro ⟨a,b,c,d,_,rfl,h⟩;exact⟨a,b,c,d,h⟩),λ⟨a,b,c,d,h⟩=>⟨a,b,c,d,_,rfl,h⟩⟩
    ·rfl
   ·rfl
  ·rfl
 ·split
  ·rename_i h1 h2
   simp only [eU,rdF,h1,h2,aN3,bAC,Nat.ble_eq]
  ·rfl
 ·split
  ·split
   ·rename_i h1
    simp only [eU,rH,wrF,h1,fN,bAC,Nat.ble_eq]
   ·rfl
  ·rfl
 ·split
  ·rename_i h1
   split
   ·rename_i xs h2
    simp only [eU,rdF,h1,h2]
    split
    ·rename_i l hl
     exact propext ⟨(by rintro (⟨l',e,h⟩| ⟨e,h⟩);·rw [hl] at e;cases e;exact h
                        ·rw [hl] at e;cases e),λh=>.inl ⟨l,hl,h⟩⟩
    ·rename_i hl
     exact propext ⟨(by rintro (⟨l',e,h⟩| ⟨e,h⟩);·rw [hl] at e;cases e
                        ·exact h),λh=>.inr ⟨hl,h⟩⟩
   ·rfl
  ·rfl
 all_goals first |rfl | (simp only [bKW])
def aZ4(P:Program):List pV->St->(St->Prop)->Prop
 | [],st,K=>K st
 | ⟨d,g,i⟩::r,⟨ssl,sso,snx⟩,K=>rZ ssl g λch gc=>aYK P ssl sso snx ch gc i λv S n=>lY v λv=>dG S λS=>cP 64 0 n λn=>aEV ssl d ⟨ch,gc,v⟩ λsl=>aZ4 P r ⟨sl,S,n⟩ K
theorem aI7(P:Program):∀(l:List pV) (st:St) (K:St->Prop),aZ4 P l st K=aCO P l st K
 | [],_,_=>rfl
 | ⟨d,g,i⟩::r,⟨ssl,sso,snx⟩,K=>by simp only [aZ4,aCO,aOX,aI7 P r]
def aT8(P:Program):St->Nat->Option Nat->Option (Nat×Bool)->I->(Rec->St->Prop)->Prop
 | ⟨ssl,sso,snx⟩,m,d,g,i,K=>
 cS (gsl g++aLQ i) λrds=>qF (look ssl rds) λSL=>rZ SL g λch gc=>cS (sB i SL sso) λT=>dG (iC sso T) λSO=>cS (gsl g++chs SL) λG=>
  aYK P SL SO m ch gc i λv S1 n1=>lY v λv=>dG S1 λS1=>cS (wrI SL T m n1 i) λW=>cS (W++aEF m S1) λids=>
   (aAU T m S1&&(sH d G&&(aDE (m+16) ids&&(aFJ W T&&(aFJ (chT ch) G&&(aDH m T&&Nat.ble n1 (m+16)))))))=true/\aCA SO S1 W
   (aEV ssl d ⟨ch,gc,v⟩ λsl=>dG (vW sso S1 ids) λso=>K ⟨m,rds++G,chT ch,d,⟨ch,gc,v⟩,T,ids,S1⟩ ⟨sl,so,snx⟩) T
theorem aT9(P:Program)(st:St)(m:Nat)(d:Option Nat)(g:Option (Nat×Bool))(i:I)(K:Rec->St->Prop):aT8 P st m d g i K=aDR P st m d g i K:=by
 obtain⟨ssl,sso,snx⟩:=st
 simp only [aT8,aDR,aOX,aHY]
def aJW(P:Program):List pV->List Nat->St->(List Rec->St->Prop)->Prop
 | [],[],st,K=>K [] st
 | ⟨d,g,i⟩::r,m::ms,st,K=>aT8 P st m d g i λrc st'=>aJW P r ms st' λrs st''=>K (rc::rs) st''
 |_,_,_,_=>False
theorem aJX(P:Program):∀(l:List pV) (ms:List Nat) (st:St) (K:List Rec->St->Prop),aJW P l ms st K=nD P l ms st K
 | [],[],_,_=>rfl
 | [],_::_,_,_=>rfl
 |_::_,[],_,_=>rfl
 | ⟨d,g,i⟩::r,m::ms,st,K=>by simp only [aJW,nD,aT9,aJX P r]
structure aJ8(P:Program)(n0:Nat)(c:RC)(st:St)(K:Ex->St->Prop):Prop where
 h:∃(α:Type) (I:α->Prop) (F:α->St) (m:α->Nat),(∃a,I a/\View n0 st (F a))/\∀a,I a->Cd P n0 c (F a) (aOE n0 I F m a K)
structure aDD {α:Type} (n0:Nat)(I:α->Prop)(F:α->St)(m:α->Nat)(a:α)(st:St):Prop where
 h:∃a',I a'/\View n0 st (F a')/\m a'<m a
def aSR {α:Type} (n0:Nat)(I:α->Prop)(F:α->St)(m:α->Nat)(a:α)(K:Ex->St->Prop)(e:Ex)(st':St):Prop:=
 match e with
 | .normal=>aDD n0 I F m a st'
 | .exit id=>K (.exit id) st'
 | .ret=>K .ret st'
theorem aQO {α:Type} (n0:Nat)(I:α->Prop)(F:α->St)(m:α->Nat)(a:α)(K:Ex->St->Prop):aSR n0 I F m a K=aOE n0 I F m a K:=by
 funext e st'
 cases e with
 |normal=>exact propext ⟨λh=>h.h,λh=>⟨h⟩⟩
 |_=>rfl
structure rE(P:Program)(n0:Nat)(rvs:List RV)(res:V)(ob1:List Obj)(e:Ex)(st:St):Prop where
 h:gG P n0 rvs res ob1 e st
theorem aOF(P:Program)(n0:Nat)(rvs:List RV)(res:V)(ob1:List Obj):rE P n0 rvs res ob1=gG P n0 rvs res ob1:=by
 funext e st
 exact propext ⟨λh=>h.h,λh=>⟨h⟩⟩
theorem aK(ks:List Ct) {P:Program} {f:FuncId} {fn:Func} {rc:RC} {rvs:List RV} {ob0 ob1:List Obj} {args:List V} {res:V} (hf:P.funcs[f]? =some fn)(hb0:fn.body.isSome=true)
 (hrv:fn.results.toList.mapM (jO P)=some rvs) (hres:aIJ P fn.ntmps (aEQ args 0 (kM rvs)) ks (fn.body.getD .skip)=some rc) (hn:Nat.ble args.length fn.ntmps=true)
 (hK:cP 16 0 ob0.length λn0=>Cd P n0 rc ⟨fF 0 args,aN 0 ob0,n0⟩ (rE P n0 rvs res ob1)):aM P f ob0 args res ob1:=
 aF ks hf hb0 hrv hres hn (by simpa only [aOF] using hK)
def CdQ(P:Program)(n0:Nat)(rc:RC)(st:St)(K:Ex->St->Prop):Prop:=
 match rc with
 | .reg l kill=>aZ4 P l st λ| ⟨sl0,so0,nx0⟩=>fC kill sl0 λsl=>K .normal ⟨sl,so0,nx0⟩
 | .dreg b0 n l kill an ms=>match Nat.ble st.nx b0 with
   |true=>aJW P l ms ⟨st.sl,st.so,n⟩ λ|recs,⟨sl0,so0,nx0⟩=>nC recs an 0=true/\fC kill (look sl0 (qY sl0)) λsl=>K .normal ⟨sl,so0,nx0⟩
   |false=>aJW P l (shM st.nx ms) ⟨st.sl,st.so,n+st.nx⟩ λ|recs,⟨sl0,so0,nx0⟩=>nC recs an 0=true/\fC kill (look sl0 (qY sl0)) λsl=>K .normal ⟨sl,so0,nx0⟩
 | .loop c=>aJ8 P n0 c st K
 |rc=>CdB P n0 rc st K
theorem Cd.gq {P:Program} {n0:Nat} {rc:RC} {st:St} {K:Ex->St->Prop} (h:CdQ P n0 rc st K):Cd P n0 rc st K:=by
 cases rc with
 |reg l k=>exact Cd.reg (by rw [<-aI7];exact h)
 |dreg b0 n l kill an ms=>
  unfold CdQ at h
  simp only [aJX] at h
  exact Cd.go h
 |loop c=>exact Cd.loop h.h
 |_=>exact Cd.go h
omit [gH] in
theorem wI {n:Int} (h: -9223372036854775808<=n)(h':n<9223372036854775808):IntKind.i64.wrap n=n:=by rw [IntKind.wrap_i64];omega
omit [gH] in
theorem aB1(x:Nat)(h:x<9223372036854775808):(BitVec.ofInt 64 (x:Int)).toNat=x:=by
 rw [BitVec.toNat_ofInt];omega
omit [gH] in
theorem bG9 {x y:Nat} (hx:x<9223372036854775808)(hy:y<9223372036854775808):fH .and .i64 (x:Int) (y:Int)=((x &&& y:Nat):Int):=by
 have h:=Nat.and_le_left (n:=x) (m:=y)
 show IntKind.i64.wrap (((BitVec.ofInt 64 (x:Int)&&& BitVec.ofInt 64 (y:Int)).toNat:Nat):Int)=_
 rw [BitVec.toNat_and,aB1 x hx,aB1 y hy]
 exact wI (by omega) (by omega)
omit [gH] in
theorem bOr {x y:Nat} (hx:x<9223372036854775808)(hy:y<9223372036854775808):fH .or .i64 (x:Int) (y:Int)=((x ||| y:Nat):Int):=by
 have h:=Nat.or_lt_two_pow (n:=63) hx hy
 show IntKind.i64.wrap (((BitVec.ofInt 64 (x:Int)||| BitVec.ofInt 64 (y:Int)).toNat:Nat):Int)=_
 rw [BitVec.toNat_or,aB1 x hx,aB1 y hy]
 exact wI (by omega) (by omega)
omit [gH] in
theorem bLN {x y:Nat} (hx:x<9223372036854775808)(hy:y<9223372036854775808):fH .xor .i64 (x:Int) (y:Int)=((x ^^^ y:Nat):Int):=by
 have h:=Nat.xor_lt_two_pow (n:=63) hx hy
 show IntKind.i64.wrap (((BitVec.ofInt 64 (x:Int)^^^ BitVec.ofInt 64 (y:Int)).toNat:Nat):Int)=_
 rw [BitVec.toNat_xor,aB1 x hx,aB1 y hy]
 exact wI (by omega) (by omega)
omit [gH] in
theorem bGA {x b:Nat} (hx:x<9223372036854775808)(hy:(OfNat.ofNat b:Nat)<9223372036854775808):fH .and .i64 (x:Int) (OfNat.ofNat b:Int)=((x &&& (OfNat.ofNat b:Nat):Nat):Int):=bG9 hx hy
omit [gH] in
theorem bLM {x b:Nat} (hx:x<9223372036854775808)(hy:(OfNat.ofNat b:Nat)<9223372036854775808):fH .or .i64 (x:Int) (OfNat.ofNat b:Int)=((x ||| (OfNat.ofNat b:Nat):Nat):Int):=bOr hx hy
omit [gH] in
theorem bNG {a k:Nat} (hk:k<63)(h:a*2^k<9223372036854775808):IntKind.i64.wrap ((a:Int)*2^min (k:Int).toNat IntKind.i64.bits)=((a*2^k:Nat):Int):=by
 have e:min (k:Int).toNat IntKind.i64.bits=k:=by show min k 64=k;omega
 rw [e,show(a:Int)*2^k=((a*2^k:Nat):Int) by simp]
 exact wI (by omega) (by omega)
omit [gH] in
theorem bNF {k:Nat} (hk:k<62):IntKind.i64.wrap (1*2^min (k:Int).toNat IntKind.i64.bits)=((2^k:Nat):Int):=by
 have h:2^k<2^62:=Nat.pow_lt_pow_right (by omega) hk
 have :=bNG (a:=1) (k:=k) (by omega) (by omega)
 rwa [Nat.one_mul] at this
omit [gH] in
theorem bNH {a k:Nat} (hk:k<=64):(a:Int).fdiv (2^min (k:Int).toNat IntKind.i64.bits)=((a/2^k:Nat):Int):=by
 have e:min (k:Int).toNat IntKind.i64.bits=k:=by show min k 64=k;omega
 have e2:(2:Int)^k=((2^k:Nat):Int):=by simp
 rw [e,e2,Int.fdiv_eq_ediv_of_nonneg _ (Int.natCast_nonneg _)]
 exact(Int.natCast_ediv _ _).symm
omit [gH] in
theorem divN {a b:Nat} (ha:a<9223372036854775808):IntKind.i64.wrap ((a:Int).tdiv (b:Int))=((a/b:Nat):Int):=by
 have h:=Nat.div_le_self a b
 rw [show(a:Int).tdiv (b:Int)=((a/b:Nat):Int) by rw [Int.tdiv_eq_ediv_of_nonneg (by omega)];exact(Int.natCast_ediv _ _).symm]
 generalize a/b=c at *
 exact wI (by omega) (by omega)
omit [gH] in
theorem bLR {a b:Nat} (ha:a<9223372036854775808):IntKind.i64.wrap ((a:Int).tdiv (OfNat.ofNat b:Int))=((a/(OfNat.ofNat b:Nat):Nat):Int):=divN ha
omit [gH] in
theorem bGZ {a b:Nat} :(a:Int).tmod (b:Int)=((a%b:Nat):Int):=by
 rw [Int.tmod_eq_emod_of_nonneg (by omega)];exact(Int.natCast_emod _ _).symm
omit [gH] in
theorem bM2 {a b:Nat} :(a:Int).tmod (OfNat.ofNat b:Int)=((a%(OfNat.ofNat b:Nat):Nat):Int):=bGZ
omit [gH] in
theorem wA {i j:Nat} (h:i+j<9223372036854775807):IntKind.i64.wrap ((i:Int)+(j:Int))=((i+j:Nat):Int):=by rw [wI (by omega) (by omega)];omega
omit [gH] in
theorem wAL {i b:Nat} (h:i+(OfNat.ofNat b:Nat)<9223372036854775807):IntKind.i64.wrap ((i:Int)+(OfNat.ofNat b:Int))=((i+(OfNat.ofNat b:Nat):Nat):Int):=wA h
omit [gH] in
theorem wLA {i b:Nat} (h:(OfNat.ofNat b:Nat)+i<9223372036854775807):IntKind.i64.wrap ((OfNat.ofNat b:Int)+(i:Int))=(((OfNat.ofNat b:Nat)+i:Nat):Int):=wA h
omit [gH] in
theorem wM {i j:Nat} (h:i*j<9223372036854775807):IntKind.i64.wrap ((i:Int)*(j:Int))=((i*j:Nat):Int):=by rw [<-Int.natCast_mul];exact wI (by omega) (by omega)
omit [gH] in
theorem wML {i b:Nat} (h:i*(OfNat.ofNat b:Nat)<9223372036854775807):IntKind.i64.wrap ((i:Int)*(OfNat.ofNat b:Int))=((i*(OfNat.ofNat b:Nat):Nat):Int):=wM h
omit [gH] in
theorem wD {i j:Nat} (h:j<=i)(h2:i<9223372036854775807):IntKind.i64.wrap ((i:Int)- (j:Int))=((i-j:Nat):Int):=by rw [wI (by omega) (by omega)];omega
omit [gH] in
theorem wP {i:Nat} (h:i<9223372036854775807):IntKind.i64.wrap (((i+1:Nat):Int)-1)=(i:Int):=by rw [wI (by omega) (by omega)];omega
omit [gH] in
theorem wDL {i b:Nat} (h:(OfNat.ofNat b:Nat)<=i)(h2:i<9223372036854775807):IntKind.i64.wrap ((i:Int)- (OfNat.ofNat b:Int))=((i- (OfNat.ofNat b:Nat):Nat):Int):=wD h h2
omit [gH] in
theorem wLD {i b:Nat} (h:i<=(OfNat.ofNat b:Nat))(h2:(OfNat.ofNat b:Nat)<9223372036854775807):IntKind.i64.wrap ((OfNat.ofNat b:Int)- (i:Int))=(((OfNat.ofNat b:Nat)-i:Nat):Int):=wD h h2
omit [gH] in
theorem ixN {n:Nat} :0+(n:Int).toNat=n:=by rw [Nat.zero_add];rfl
omit [gH] in
theorem ixL {n:Nat} :0+(OfNat.ofNat n:Int).toNat=(OfNat.ofNat n:Nat):=ixN
omit [gH] in
theorem mxN {a b:Nat} :max (a:Int) (b:Int)=((max a b:Nat):Int):=by omega
omit [gH] in
theorem mxL {a b:Nat} :max (a:Int) (OfNat.ofNat b:Int)=((max a (OfNat.ofNat b:Nat):Nat):Int):=mxN
omit [gH] in
theorem mnN {a b:Nat} :min (a:Int) (b:Int)=((min a b:Nat):Int):=by omega
omit [gH] in
theorem mnL {a b:Nat} :min (a:Int) (OfNat.ofNat b:Int)=((min a (OfNat.ofNat b:Nat):Nat):Int):=mnN
omit [gH] in
theorem Nz {a b:Int} (h:a=b:=by first |with_reducible exact wP (by omega)|with_reducible exact wAL (by omega)|with_reducible exact wA (by omega)|with_reducible exact wDL (by omega) (by omega)|with_reducible exact wD (by omega) (by omega)|with_reducible exact wML (by omega)|with_reducible exact bLR (by omega)|with_reducible exact bM2 |with_reducible exact bG9 (by omega) (by omega)|with_reducible exact bGA (by omega) (by omega)|with_reducible exact bOr (by omega) (by omega)|with_reducible exact bLM (by omega) (by omega)|with_reducible exact bNF (by omega)|with_reducible exact wM (by omega)|with_reducible exact divN (by omega)|with_reducible exact bGZ |with_reducible exact wLA (by omega)|with_reducible exact wLD (by omega) (by omega)|with_reducible exact mxN |with_reducible exact mxL |with_reducible exact mnN |with_reducible exact mnL |with_reducible exact bNH (by omega)|with_reducible exact bLN (by omega) (by omega)|with_reducible exact wI (by omega) (by omega)):a=b:=h
theorem eqT {a b:Int} (h:a=b):(a==b)=true:=beq_iff_eq.2 h
theorem eqF {a b:Int} (h:a≠b):(a==b)=false:=beq_eq_false_iff_ne.2 h
theorem neT {a b:Int} (h:a≠b):(a != b)=true:=bne_iff_ne.2 h
theorem neF {a b:Int} (h:a=b):(a != b)=false:=bne_eq_false_iff_eq.2 h
theorem deT {p:Prop} [Decidable p](h:p):decide p=true:=decide_eq_true h
theorem deF {p:Prop} [Decidable p](h:¬p):decide p=false:=decide_eq_false h
theorem Bz {a b:Bool} (h:a=b:=by first |with_reducible exact deT (by omega)|with_reducible exact deF (by omega)|with_reducible exact eqT (by omega)|with_reducible exact eqF (by omega)|with_reducible exact neT (by omega)|with_reducible exact neF (by omega)):a=b:=h
theorem bAE:∀n:Nat,gK (List.replicate n [V.int .u8 0])=some (List.replicate n 0)
 |0=>rfl
 |n+1=>by rw [List.replicate_succ,gK,bAE n];rfl
theorem bCV {n m:Nat} (h:n<=m):gK (List.take n (List.drop 0 (List.replicate m [V.int .u8 0])))=some (List.replicate n 0):=by
 rw [List.drop_zero,List.take_replicate,Nat.min_eq_left h,bAE]
theorem asI {a b:Int} (h:a=b):a=b:=h
theorem Nl {a b:Int} (h:a=b:=by simp;rfl):a=b:=h
theorem Np {o l l':Nat} (h:l=l':=by simp;rfl):(o,l)=(o,l'):=by rw [h]
theorem bCM {α:Type} {xs:List α} {n:Nat} (h:xs.length<=n):List.take n (List.drop 0 xs)=xs:=by rw [List.drop_zero,List.take_of_length_le h]
theorem Sd {p:Prop} (h:p:=by(fail_if_success exact True.intro);first |omega |exact bCM (by first |omega | (simp;done)| (simp;omega))| (simp(disch:=omega) [wI,List.take_of_length_le];done)| (simp(disch:=omega) only [wI];omega)| (simp(disch:=omega) [wI,List.take_of_length_le];omega)):p:=h
theorem bFH(x:UInt8):0<=(x.toNat:Int)/\(x.toNat:Int)<256:=by have :=x.toNat_lt;omega
theorem aMT {x:Bool} {A B:Prop} (h:x=true)(a:A):cq x A B:=by rw [aOM];exact⟨λ_=>a,λe=>by rw [h] at e;cases e⟩
theorem aMS {x:Bool} {A B:Prop} (h:x=false)(b:B):cq x A B:=by rw [aOM];exact⟨(λe=>by rw [h] at e;cases e),λ_=>b⟩
theorem aT5 {p:Prop} [Decidable p] {A B:Prop} (h:p)(a:A):cq (decide p) A B:=aMT (decide_eq_true h) a
theorem aT4 {p:Prop} [Decidable p] {A B:Prop} (h:¬p)(b:B):cq (decide p) A B:=aMS (decide_eq_false h) b
theorem aHO {P:Program} {f:FuncId} {o o1:List Obj} {a b:List V} {r:V} (h:aM P f o a r o1)(e:b=a):aM P f o b r o1:=e▸h
theorem aW4 {xs:List (List V)} {i n:Nat} {r:List V} (h:xs.getD n []=r)(e:i=n):xs.getD i []=r:=by rw [e,h]
theorem aN1 {l:List Nat} {K:List Nat->Prop} (h:cS l K):K l:=by rwa [fD] at h
theorem ucQ {P:Program} {f:FuncId} {args:List V} {S:aD} {m:Nat} {K:V->aD->Nat->Prop} (h:cS (aKM S args) λL=>∃ob0,qK S L L=some ob0/\∃ob1 res,aM P f ob0 (args.map (arg2 L)) res ob1/\jW L=true/\Nat.ble L.length ob1.length=true/\Nat.ble ob1.length (L.length+16)=true/\K (aCQ L m res) (mN S L (ob1.map (mL L m)) m) (m+16)):oO P f args S m K:=by
 obtain⟨o0,e,o1,r,h1,h2⟩:=aN1 h
 exact⟨_,o0,o1,r,h1,mF e,h2⟩
theorem aXR {a b:V} {l m:List V} (h:a=b)(k:l=m):a::l=b::m:=by rw [h,k]
theorem bCU {l m:List V} (h:l=m):V.agg l=V.agg m:=by rw [h]
theorem int_eq {k:IntKind} {n m:Int} (h:n=m):V.int k n=V.int k m:=by rw [h]
theorem aXO {n m:Bool} (h:n=m):V.bool n=V.bool m:=by rw [h]
theorem bDQ {k:Nat} {b:Bool} {n m:List (List V)} (h:n=m):V.lst k b n=V.lst k b m:=by rw [h]
theorem bKQ {k a b c d:Nat} (h:a=c)(h':b=d):V.sl k a b=V.sl k c d:=by rw [h,h']
theorem Ag {a b:List V} (h:a=b:=by
 repeat' (first |refine aXR ?_ ?_ |rfl |refine bCU ?_ |refine int_eq ?_ |refine aXO ?_ |refine bDQ ?_ |refine bKQ ?_ ?_ |exact Sd)):a=b:=h
theorem Cz {G:Prop} (h:G:=by repeat' (first |exact trivial |rfl |exact .inl rfl |exact .inr rfl |exact id |exact(λh=>Bool.noConfusion h)|refine And.intro ?_ ?_ |exact Sd | ((conv=>whnf);exact Sd))):G:=h
theorem Lz {G:Prop} (h:G:=by
 (try refine rE.mk ?_)
 (repeat((conv=>whnf);first |refine And.intro (λ_=>⟨rfl,Nat.le_of_ble_eq_true rfl⟩) ?_ |refine And.intro (λ_=>Nat.le_of_ble_eq_true rfl) ?_ |refine And.intro (Nat.le_of_ble_eq_true rfl) ?_ |refine And.intro (λ_=>Sd) ?_))
 (conv=>whnf)
 refine⟨[],trivial,rfl,trivial,rfl,?_⟩
 repeat' (first |exact trivial |rfl |exact .inl rfl |exact .inr rfl |exact id |exact(λh=>Bool.noConfusion h)|refine And.intro ?_ ?_ |exact Sd | ((conv=>whnf);exact Sd))):G:=h
theorem Vz {n0:Nat} {st st':St} (ids:List (Option Nat))(h:VwP n0 st st' ids:=by
 refine⟨rfl,rfl,?_,rfl,?_,rfl,?_⟩
 repeat' (first |exact trivial |rfl |exact .inl rfl |exact .inr rfl |exact id |exact(λh=>Bool.noConfusion h)|refine And.intro ?_ ?_ |exact Sd | ((conv=>whnf);exact Sd))):View n0 st st':=bX ids h.h1 h.h2 h.h3 h.h4 h.h5 h.h6 h.h7
theorem Wx {G Q:Prop} (q:Q)(h:Hd Q->G:=by
 intro q
 (repeat((conv=>whnf);(fail_if_success refine rE.mk ?_);(fail_if_success refine aJ8.mk ?_);(fail_if_success refine aDD.mk ?_);first |refine Cd.gq ?_ |refine OB.mk Sd ?_ |refine OB.mk (λ_=>Sd) ?_ |refine Exists.intro _ (And.intro Nz ?_)|refine Exists.intro _ (And.intro ixN ?_)|refine Exists.intro _ (And.intro ixL ?_)|refine Exists.intro _ (And.intro (asI (by assumption)) ?_)|refine Or.inl (Exists.intro _ (And.intro (bCV Sd) ?_))|refine Or.inl (Exists.intro _ (And.intro (by assumption) ?_))|refine Exists.intro true (And.intro rfl ?_)|refine Exists.intro false (And.intro rfl ?_)|refine Exists.intro _ (And.intro Bz ?_)|refine Exists.intro _ (And.intro Nl ?_)|refine Exists.intro _ (And.intro Np ?_)|refine Exists.intro _ (And.intro (aW4 (by assumption) (by omega)) ?_)|refine Exists.intro _ (And.intro rfl ?_)|refine And.intro rfl ?_ |refine aB rfl ?_ |refine aB (bFH _) ?_ |refine aB Sd ?_ |refine aH (λ_=>Sd) ?_ |refine .inl ⟨.bool false,λh=>Bool.noConfusion (show false=true from h),.inr rfl,?_⟩|refine .inl ⟨_,λ_=>⟨aFG rfl,(by assumption)⟩,.inl rfl,?_⟩| (refine .inr ⟨λ_=>ucQ ?_,(by intro h;cases h)⟩;(conv=>whnf);refine Exists.intro _ (And.intro rfl ?_);refine⟨_,_,(by assumption),rfl,(by rfl),(by rfl),?_⟩)|refine aMT (by assumption) ?_ |refine aMS (by assumption) ?_ |refine aT5 (by omega) ?_ |refine aT4 (by omega) ?_ |refine aMT Sd ?_ |refine aMS Sd ?_ |refine bG Sd Sd ?_ |refine aGW Sd Sd Sd Sd ?_ |refine And.intro (Nat.le_of_ble_eq_true rfl) ?_ |refine And.intro (.inl rfl) ?_ |refine And.intro (λ_=>⟨rfl,Nat.le_of_ble_eq_true rfl⟩) ?_ |refine And.intro (λ_=>Nat.le_of_ble_eq_true rfl) ?_ |refine And.intro (λh=>Bool.noConfusion h) ?_ |refine And.intro (λ_=>Sd) ?_ |refine And.intro Sd ?_ |refine .inl ⟨_,λ_=>⟨aFG rfl,aHO (by assumption) Ag⟩,.inl rfl,?_⟩))
 (conv=>whnf)
 exact q.h):G:=h ⟨q⟩
theorem Wz {G:Prop} (h:G:=by
 refine Wx ?_
 exact Lz):G:=h
theorem Wx2 {C1 C2 G Q:Prop} (c1:C1)(c2:C2)(q:Q)(h:C1->C2->Hd Q->G:=by
 intro c1 c2 q
 (repeat((conv=>whnf);(fail_if_success refine rE.mk ?_);(fail_if_success refine aJ8.mk ?_);(fail_if_success refine aDD.mk ?_);first |refine Cd.gq ?_ |refine OB.mk Sd ?_ |refine OB.mk (λ_=>Sd) ?_ |refine Exists.intro _ (And.intro Nz ?_)|refine Exists.intro _ (And.intro ixN ?_)|refine Exists.intro _ (And.intro ixL ?_)|refine Exists.intro _ (And.intro (asI (by assumption)) ?_)|refine Or.inl (Exists.intro _ (And.intro (bCV Sd) ?_))|refine Or.inl (Exists.intro _ (And.intro (by assumption) ?_))|refine Exists.intro true (And.intro rfl ?_)|refine Exists.intro false (And.intro rfl ?_)|refine Exists.intro _ (And.intro Bz ?_)|refine Exists.intro _ (And.intro Nl ?_)|refine Exists.intro _ (And.intro Np ?_)|refine Exists.intro _ (And.intro (aW4 c1 (by omega)) ?_)|refine Exists.intro _ (And.intro (aW4 c2 (by omega)) ?_)|refine Exists.intro _ (And.intro (aW4 (by assumption) (by omega)) ?_)|refine Exists.intro _ (And.intro rfl ?_)|refine And.intro rfl ?_ |refine aB rfl ?_ |refine aB (bFH _) ?_ |refine aB Sd ?_ |refine aH (λ_=>Sd) ?_ |refine .inl ⟨.bool false,λh=>Bool.noConfusion (show false=true from h),.inr rfl,?_⟩|refine .inl ⟨_,λ_=>⟨aFG rfl,(by assumption)⟩,.inl rfl,?_⟩| (refine .inr ⟨λ_=>ucQ ?_,(by intro h;cases h)⟩;(conv=>whnf);refine Exists.intro _ (And.intro rfl ?_);refine⟨_,_,(by assumption),rfl,(by rfl),(by rfl),?_⟩)|refine aMT (by assumption) ?_ |refine aMS (by assumption) ?_ |refine aT5 (by omega) ?_ |refine aT4 (by omega) ?_ |refine aMT Sd ?_ |refine aMS Sd ?_ |refine bG Sd Sd ?_ |refine aGW Sd Sd Sd Sd ?_ |refine And.intro (Nat.le_of_ble_eq_true rfl) ?_ |refine And.intro (.inl rfl) ?_ |refine And.intro (λ_=>⟨rfl,Nat.le_of_ble_eq_true rfl⟩) ?_ |refine And.intro (λ_=>Nat.le_of_ble_eq_true rfl) ?_ |refine And.intro (λh=>Bool.noConfusion h) ?_ |refine And.intro (λ_=>Sd) ?_ |refine And.intro Sd ?_ |refine .inl ⟨_,λ_=>⟨aFG rfl,aHO (by assumption) Ag⟩,.inl rfl,?_⟩))
 (conv=>whnf)
 exact q.h):G:=h c1 c2 ⟨q⟩
end Go.Sk
namespace Go.Sk
open Go Go.RowKit
variable [gH]
def tY:RC->List Nat
 | .reg l _=>oD l
 | .dreg _ _ l _ _ _=>oD l
 | .seq a b=>tY a++tY b
 | .cut a b=>tY a++tY b
 | .regc a b _=>oD a++oD b
 | .regv a _ b _=>oD a++oD b
 | .cond _ a b=>tY a++tY b
 | .block _ c=>tY c
 | .loop c=>tY c
 | .uloop c=>tY c
 |_=> []
def aNA(ds:List Nat):bD->bD
 | []=> []
 | (d,⟨_,g,v⟩)::r=>match gP d ds with
   |true=>aNA ds r
   |false=>(d,⟨[],g,v⟩)::aNA ds r
def aNB(L ds:List Nat):bD->bD
 | []=> []
 | (d,⟨_,g,v⟩)::r=>match gP d ds with
   |true=>aNB L ds r
   |false=>(d,⟨[],g,arg2 L v⟩)::aNB L ds r
def idB:List Nat->Nat->Bool
 | [],_=>true
 |k::r,j=>match Nat.beq k j with
  |true=>idB r (j+1)
  |false=>false
def bDO(L ds:List Nat)(sl:bD):bD:=match idB L 0 with
 |true=>aNA ds sl
 |false=>aNB L ds sl
def aKK {α:Type} :List (Nat×α)->List Nat
 | []=> []
 | (k,_)::r=>k::aKK r
def bCE:List (Nat×V)->bD->bD
 | [],l=>l
 | (d,v)::r,l=>(d,⟨[],true,v⟩)::bCE r l
def bCD:List (Nat×Obj)->aD->aD
 | [],S=>S
 | (k,o)::r,S=>bCD r (S.set k o)
def bAQ(L:List Nat):aD->Nat->aD
 | [],_=> []
 | (_,o)::r,j=>(j,aME L o)::bAQ L r (j+1)
def bH4(S:aD):aD:=match idB (aKK S) 0 with
 |true=>S
 |false=>bAQ (aKK S) S 0
def bGX(st:St)(os:List (Nat×Obj)):aD:=bCD os (bH4 st.so)
def lpF(c:RC)(st:St)(us:List (Nat×V))(os:List (Nat×Obj)):St:=
 ⟨bCE us (bDO (aKK st.so) (tY c++aKK us) st.sl),bGX st os,(bGX st os).length⟩
def aTM(st:St)(K:St->Prop):Prop:=qF st.sl λsl=>dG st.so λso=>cP 64 0 st.nx λnx=>K ⟨sl,so,nx⟩
theorem aTN(st:St)(K:St->Prop):aTM st K=K st:=by unfold aTM;rw [lX,eM,eF]
theorem Lp {P:Program} {n0:Nat} {c:RC} {st:St} {K:Ex->St->Prop} {α:Type} (I:α->Prop)(us:α->List (Nat×V))(os:α->List (Nat×Obj))(m:α->Nat)(a0:α)(h0:I a0)(hv:View n0 st (lpF c st (us a0) (os a0)))
 (hb:∀a,I a->aTM (lpF c st (us a) (os a)) λst'=>Cd P n0 c st' (aSR n0 I (λa=>lpF c st (us a) (os a)) m a K)):aJ8 P n0 c st K:=
 ⟨α,I,_,m,⟨a0,h0,hv⟩,λa ha=>by have :=hb a ha;rw [aTN,aQO] at this;exact this⟩
theorem Vr {n0:Nat} {st st':St} (ids:List (Option Nat))(h:VwP n0 st st' ids:=by
 refine⟨rfl,rfl,?_,?_,?_,?_,?_⟩
 rotate_left 4
 ·repeat' (first |exact trivial |rfl |exact .inl rfl |exact .inr rfl |exact id |exact(λh=>Bool.noConfusion h)|refine And.intro ?_ ?_ |exact Sd | ((conv=>whnf);exact Sd))
 ·repeat' (first |exact trivial |rfl |exact .inl rfl |exact .inr rfl |exact id |exact(λh=>Bool.noConfusion h)|refine And.intro ?_ ?_ |exact Sd | ((conv=>whnf);exact Sd))
 ·rfl
 ·repeat' (first |exact trivial |rfl |exact .inl rfl |exact .inr rfl |exact id |exact(λh=>Bool.noConfusion h)|refine And.intro ?_ ?_ |exact Sd | ((conv=>whnf);exact Sd))
 ·rfl):View n0 st st':=bX ids h.h1 h.h2 h.h3 h.h4 h.h5 h.h6 h.h7
theorem Va {n0:Nat} {st st':St} (h:View n0 st st':=by first |exact Vz [] |exact Vr [some _] |exact Vr [some _,some _] |exact Vr [some _,some _,some _] |exact Vr [some _,some _,some _,some _] |exact Vr [some _,some _,some _,some _,some _] |exact Vr [some _,some _,some _,some _,some _,some _]):View n0 st st':=h
theorem fP {p:Prop} [Decidable p] {A B:Prop} (h:p->A)(k:¬p->B):cq (decide p) A B:=aC (λe=>h (of_decide_eq_true e)) (λe=>k (of_decide_eq_false e))
theorem bD2 {a b:Int} {A B:Prop} (h:a=b->A)(k:a≠b->B):cq (a==b) A B:=aC (λe=>h (eq_of_beq e)) (λe=>k (beq_eq_false_iff_ne.1 e))
theorem aT6 {a b:Int} {A B:Prop} (h:a≠b->A)(k:a=b->B):cq (a != b) A B:=aC (λe=>h (bne_iff_ne.1 e)) (λe=>k (bne_eq_false_iff_eq.1 e))
theorem Le {α:Type} {n0:Nat} {I:α->Prop} {F:α->St} {m:α->Nat} {a:α} {st:St} (b:α)(hI:I b:=by first |exact Sd | (dsimp only;exact Sd))(hv:View n0 st (F b):=by exact Va)(hm:m b<m a:=by first |exact Sd | (dsimp only;exact Sd)):aDD n0 I F m a st:=⟨b,hI,hv,hm⟩
end Go.Sk
namespace Go.Sk
open Go Go.RowKit
variable [gH]
theorem Lo {G:Prop} (h:G:=by
 (try refine rE.mk ?_)
 (repeat((conv=>whnf);first |refine And.intro (λ_=>⟨rfl,Nat.le_of_ble_eq_true rfl⟩) ?_ |refine And.intro (λ_=>Nat.le_of_ble_eq_true rfl) ?_ |refine And.intro (Nat.le_of_ble_eq_true rfl) ?_ |refine And.intro (λ_=>Sd) ?_))
 (conv=>whnf)
 refine⟨[some 0],?_,rfl,?_,rfl,?_⟩
 all_goals(repeat' (first |exact trivial |rfl |exact .inl rfl |exact .inr rfl |exact id |exact(λh=>Bool.noConfusion h)|refine And.intro ?_ ?_ |exact Sd | ((conv=>whnf);exact Sd)))):G:=h
theorem mkT {b n:Nat} (h:b*n<=1000000)(h0:n<=1000000):mkB b (n:Int)=true:=by
 rw [aNC (by omega)]
 have e:(b:Int)*(n:Int)=((b*n:Nat):Int):=by simp
 rw [e]
 omega
theorem Wo {G:Prop} (h:G:=by
 refine Wx ?_
 exact Lo):G:=h
end Go.Sk
namespace Go.Sk
open Go Go.RowKit
variable [gH]
def aMC(k:Nat)(l:List Nat)(K:List Nat->Prop):Prop:=match gP k l with
 |true=>K l
 |false=>cS (l++ [k]) K
theorem aXF(k:Nat)(l:List Nat)(K:List Nat->Prop):aMC k l K=K (addN k l):=by
 unfold aMC addN
 cases gP k l with
 |true=>rfl
 |false=>exact fD _ _
def aUC:V->List Nat->(List Nat->Prop)->Prop
 | .ptr k _ _,l,K=>cP 64 0 k λk=>aMC k l K
 | .sl k _ _,l,K=>cP 64 0 k λk=>aMC k l K
 | .slx k _ _,l,K=>cP 64 0 k λk=>aMC k l K
 | .slk k _ _ _,l,K=>cP 64 0 k λk=>aMC k l K
 | .mp k,l,K=>cP 64 0 k λk=>aMC k l K
 |_,l,K=>K l
theorem aI5(v:V)(l:List Nat)(K:List Nat->Prop):aUC v l K=K (nm1 v l):=by
 cases v <;> simp only [aUC,nm1,eF,aXF]
def aBX:List V->List Nat->(List Nat->Prop)->Prop
 | [],l,K=>K l
 |v::r,l,K=>aUC v l λl=>aBX r l K
theorem vS:∀(cs:List V) (l:List Nat) (K:List Nat->Prop),aBX cs l K=K (aKX cs l)
 | [],_,_=>rfl
 |v::r,l,K=>by simp only [aBX,aKX,aI5,vS r]
def aRP:List V->List Nat->(List Nat->Prop)->Prop
 | [],l,K=>K l
 | .agg cs::r,l,K=>aBX cs l λl=>aRP r l K
 | .fn _ cs::r,l,K=>aBX cs l λl=>aRP r l K
 |v::r,l,K=>aUC v l λl=>aRP r l K
theorem aP9:∀(cs:List V) (l:List Nat) (K:List Nat->Prop),aRP cs l K=K (nm2.nmT cs l)
 | [],_,_=>rfl
 |v::r,l,K=>by cases v <;> simp only [aRP,nm2.nmT,aI5,vS,aP9 r]
def bDX:V->List Nat->(List Nat->Prop)->Prop
 | .agg cs,l,K=>aBX cs l K
 | .fn _ cs,l,K=>aBX cs l K
 | .tup cs,l,K=>aRP cs l K
 |v,l,K=>aUC v l K
theorem aYU(v:V)(l:List Nat)(K:List Nat->Prop):bDX v l K=K (nm2 v l):=by
 cases v <;> simp only [bDX,nm2,aI5,vS,aP9]
def aP8:List V->List Nat->(List Nat->Prop)->Prop
 | [],l,K=>K l
 |v::r,l,K=>bDX v l λl=>aP8 r l K
theorem aKY:∀(cs:List V) (l:List Nat) (K:List Nat->Prop),aP8 cs l K=K (aUD cs l)
 | [],_,_=>rfl
 |v::r,l,K=>by simp only [aP8,aUD,aYU,aKY r]
def aRO(S:aD):List Nat->List Nat->(List Nat->Prop)->Prop
 | [],l,K=>K l
 |k::r,l,K=>match S.get k with
  |some (.box cs)=>aBX cs l λl=>aRO S r l K
  |_=>aRO S r l K
theorem vT(S:aD):∀(r l:List Nat) (K:List Nat->Prop),aRO S r l K=K (nmB S r l)
 | [],_,_=>rfl
 |k::r,l,K=>by
  rw [aRO,nmB]
  cases S.get k with
  |none=>exact vT S r l K
  |some o=>
   cases o with
   |box cs=>
    dsimp only
    rw [vS,vT S r]
   |_=>exact vT S r l K
def aU2(S:aD)(args:List V)(K:List Nat->Prop):Prop:=aP8 args [] λl=>aRO S l l λl=>aRO S l l K
theorem aU3(S:aD)(args:List V)(K:List Nat->Prop):aU2 S args K=K (aKM S args):=by
 unfold aU2 aKM
 rw [aKY,vT,vT]
theorem ucR {P:Program} {f:FuncId} {args:List V} {S:aD} {m:Nat} {K:V->aD->Nat->Prop} (h:aU2 S args λL=>∃ob0,qK S L L=some ob0/\∃ob1 res,aM P f ob0 (args.map (arg2 L)) res ob1/\jW L=true/\Nat.ble L.length ob1.length=true/\Nat.ble ob1.length (L.length+16)=true/\K (aCQ L m res) (mN S L (ob1.map (mL L m)) m) (m+16)):oO P f args S m K:=by
 rw [aU3] at h
 obtain⟨o0,e,o1,r,h1,h2⟩:=h
 exact⟨_,o0,o1,r,h1,mF e,h2⟩
theorem bKE {b n:Nat} {K:Prop} (h:b*n<=1000000)(h0:n<=1000000)(k:K):rq (mkB b (n:Int)) K:=by
 rw [mkT h h0];exact k
theorem Wy {G Q:Prop} (q:Q)(h:Hd Q->G:=by
 intro q
 (repeat((conv=>whnf);(fail_if_success refine rE.mk ?_);(fail_if_success refine aJ8.mk ?_);(fail_if_success refine aDD.mk ?_);first |refine Cd.gq ?_ |refine OB.mk Sd ?_ |refine OB.mk (λ_=>Sd) ?_ |refine Exists.intro _ (And.intro Nz ?_)|refine Exists.intro _ (And.intro ixN ?_)|refine Exists.intro _ (And.intro ixL ?_)|refine Exists.intro _ (And.intro (asI (by assumption)) ?_)|refine Or.inl (Exists.intro _ (And.intro (bCV Sd) ?_))|refine Or.inl (Exists.intro _ (And.intro (by assumption) ?_))|refine Exists.intro true (And.intro rfl ?_)|refine Exists.intro false (And.intro rfl ?_)|refine Exists.intro _ (And.intro Bz ?_)|refine Exists.intro _ (And.intro Nl ?_)|refine Exists.intro _ (And.intro Np ?_)|refine Exists.intro _ (And.intro (aW4 (by assumption) (by omega)) ?_)|refine Exists.intro _ (And.intro rfl ?_)|refine And.intro rfl ?_ |refine aB rfl ?_ |refine aB (bFH _) ?_ |refine bKE Sd Sd ?_ |refine aB Sd ?_ |refine aH (λ_=>Sd) ?_ |refine .inl ⟨.bool false,λh=>Bool.noConfusion (show false=true from h),.inr rfl,?_⟩|refine .inl ⟨_,λ_=>⟨aFG rfl,(by assumption)⟩,.inl rfl,?_⟩| (refine .inr ⟨λ_=>ucR ?_,(by intro h;cases h)⟩;(conv=>whnf);refine Exists.intro _ (And.intro rfl ?_);refine⟨_,_,(by assumption),rfl,(by rfl),(by rfl),?_⟩)|refine aMT (by assumption) ?_ |refine aMS (by assumption) ?_ |refine aT5 (by omega) ?_ |refine aT4 (by omega) ?_ |refine aMT Sd ?_ |refine aMS Sd ?_ |refine bG Sd Sd ?_ |refine aGW Sd Sd Sd Sd ?_ |refine And.intro (Nat.le_of_ble_eq_true rfl) ?_ |refine And.intro (.inl rfl) ?_ |refine And.intro (λ_=>⟨rfl,Nat.le_of_ble_eq_true rfl⟩) ?_ |refine And.intro (λ_=>Nat.le_of_ble_eq_true rfl) ?_ |refine And.intro (λh=>Bool.noConfusion h) ?_ |refine And.intro (λ_=>Sd) ?_ |refine And.intro Sd ?_ |refine .inl ⟨_,λ_=>⟨aFG rfl,aHO (by assumption) Ag⟩,.inl rfl,?_⟩))
 (conv=>whnf)
 exact q.h):G:=h ⟨q⟩
theorem Lo5 {G:Prop} (h:G:=by
 (try refine rE.mk ?_)
 (repeat((conv=>whnf);first |refine And.intro (λ_=>⟨rfl,Nat.le_of_ble_eq_true rfl⟩) ?_ |refine And.intro (λ_=>Nat.le_of_ble_eq_true rfl) ?_ |refine And.intro (Nat.le_of_ble_eq_true rfl) ?_ |refine And.intro (λ_=>Sd) ?_))
 (conv=>whnf)
 refine⟨[some 0,some 1,some 2,some 3,some 4],?_,rfl,?_,rfl,?_⟩
 all_goals(repeat' (first |exact trivial |rfl |exact .inl rfl |exact .inr rfl |exact id |exact(λh=>Bool.noConfusion h)|refine And.intro ?_ ?_ |exact Sd | ((conv=>whnf);exact Sd)))):G:=h
theorem Wo5 {G:Prop} (h:G:=by
 refine Wy ?_
 exact Lo5):G:=h
end Go.Sk
namespace Go.Sk
open Go Go.RowKit
variable [gH]
def aMD:Nat->List V
 |0=> []
 |n+1=>.any::aMD n
theorem aER:∀ {a b:List V} (h:a.length=b.length) (k:Nat) (l:List Nat),aEQ a k l=aEQ b k l
 | [],[],_,_,_=>rfl
 |_::r,_::s,h,k,l=>by rw [aEQ,aEQ,aER (by simpa using h)]
theorem aDG:∀n,(aMD n).length=n
 |0=>rfl
 |n+1=>by rw [aMD,List.length_cons,aDG n]
structure Rsv(P:Program)(fn:Func)(ks:List Ct)(n:Nat) where
 rc:RC
 rvs:List RV
 h1:fn.results.toList.mapM (jO P)=some rvs
 h2:aIJ P fn.ntmps (aEQ (aMD n) 0 (kM rvs)) ks (fn.body.getD .skip)=some rc
theorem bE {P:Program} {f:FuncId} {fn:Func} {ks:List Ct} {n:Nat} (R:Rsv P fn ks n) {ob0 ob1:List Obj} {args:List V} {res:V} (hf:P.funcs[f]? =some fn)(hb0:fn.body.isSome=true)(hl:args.length=n)(hn:Nat.ble args.length fn.ntmps=true)
 (hK:cP 16 0 ob0.length λn0=>Cd P n0 R.rc ⟨fF 0 args,aN 0 ob0,n0⟩ (rE P n0 R.rvs res ob1)):aM P f ob0 args res ob1:=by
 refine aK ks hf hb0 R.h1 ?_ hn hK
 rw [aER (show args.length=(aMD n).length by rw [aDG];exact hl)]
 exact R.h2
end Go.Sk
namespace Go.Sk
open Go Go.RowKit
variable [gH]
theorem Lo2 {G:Prop} (h:G:=by
 (try refine rE.mk ?_)
 (repeat((conv=>whnf);first |refine And.intro (λ_=>⟨rfl,Nat.le_of_ble_eq_true rfl⟩) ?_ |refine And.intro (λ_=>Nat.le_of_ble_eq_true rfl) ?_ |refine And.intro (Nat.le_of_ble_eq_true rfl) ?_ |refine And.intro (λ_=>Sd) ?_))
 (conv=>whnf)
 refine⟨[some 0,some 1],?_,rfl,?_,rfl,?_⟩
 all_goals(repeat' (first |exact trivial |rfl |exact .inl rfl |exact .inr rfl |exact id |exact(λh=>Bool.noConfusion h)|refine And.intro ?_ ?_ |exact Sd | ((conv=>whnf);exact Sd)))):G:=h
theorem Wo2 {G:Prop} (h:G:=by
 refine Wy ?_
 exact Lo2):G:=h
theorem jR {G:Prop} (h:G:=by
 refine Wy ?_
 exact Lz):G:=h
end Go.Sk
namespace Go.Sk
open Go Go.RowKit
variable [gH]
structure aJ9(P:Program)(fn:Func)(ks:List Ct)(n:Nat) where
 ca:Code
 o:Oper
 g:FuncId
 cb:Code
 rca:RC
 rcb:RC
 rvs:List RV
 h0:aJV P (fn.body.getD .skip)=some (ca,o,g,cb)
 h1:fn.results.toList.mapM (jO P)=some rvs
 h2:aLC P fn.ntmps (aEQ (aMD n) 0 (kM rvs)) ks ca cb=some (rca,rcb)
theorem dF {P:Program} {f:FuncId} {fn:Func} {ks:List Ct} {n:Nat} (R:aJ9 P fn ks n) {ob0 ob1:List Obj} {args:List V} {res:V} (hq:Quiet P R.g)(hf:P.funcs[f]? =some fn)(hb0:fn.body.isSome=true)(hl:args.length=n)(hn:Nat.ble args.length fn.ntmps=true)
 (hK:cP 16 0 ob0.length λn0=>Cd P n0 R.rca ⟨fF 0 args,aN 0 ob0,n0⟩ (bCP P n0 R.rcb (rE P n0 R.rvs res ob1))):aM P f ob0 args res ob1:=by
 refine bDE ks hf hb0 R.h0 hq R.h1 ?_ hn (by simpa only [aOF] using hK)
 rw [aER (show args.length=(aMD n).length by rw [aDG];exact hl)]
 exact R.h2
end Go.Sk
namespace Go.Sk
open Go Go.RowKit
variable [gH]
theorem Lo4 {G:Prop} (h:G:=by
 (try refine rE.mk ?_)
 (repeat((conv=>whnf);first |refine And.intro (λ_=>⟨rfl,Nat.le_of_ble_eq_true rfl⟩) ?_ |refine And.intro (λ_=>Nat.le_of_ble_eq_true rfl) ?_ |refine And.intro (Nat.le_of_ble_eq_true rfl) ?_ |refine And.intro (λ_=>Sd) ?_))
 (conv=>whnf)
 refine⟨[some 0,some 1,some 2,some 3],?_,rfl,?_,rfl,?_⟩
 all_goals(repeat' (first |exact trivial |rfl |exact .inl rfl |exact .inr rfl |exact id |exact(λh=>Bool.noConfusion h)|refine And.intro ?_ ?_ |exact Sd | ((conv=>whnf);exact Sd)))):G:=h
theorem Wo4 {G:Prop} (h:G:=by
 refine Wy ?_
 exact Lo4):G:=h
end Go.Sk
