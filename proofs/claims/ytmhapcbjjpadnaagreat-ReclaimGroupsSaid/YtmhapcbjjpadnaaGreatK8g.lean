/- Caches. -/
import Derived.Test.YtmhapcbjjpadnaaGreatK6g
import Derived.Test.YtmhapcbjjpadnaaGreatK7g
set_option linter.all false
namespace Go.Sk
open Go Go.RowKit
variable [gI]
def aDV:V->Bool
 | .sl _ _ _=>false
 | .slk _ _ _ _=>false
 | .ptr _ _ _=>false
 |_=>true
def aVH:V->Bool
 | .agg cs=>cs.all aDV
 | .fn _ cs=>cs.all aDV
 |v=>aDV v
theorem aOB {S:aD} {v:V} (h:aDV v=true):jV S v:=by
 cases v <;> first |exact trivial | (simp [aDV] at h)
theorem aSY {S:aD} {v:V} (h:aVH v=true):oS S v:=by
 cases v with
 |agg e=>intro c hc;exact aOB (List.all_eq_true.1 h c hc)
 |fn f e=>intro c hc;exact aOB (List.all_eq_true.1 h c hc)
 |sl k o l=>simp [aVH,aDV] at h
 |slk k o l c=>simp [aVH,aDV] at h
 |ptr k i c=>simp [aVH,aDV] at h
 |_=>exact trivial
theorem aLB {S:aD} {l:List V} (h:l.all aVH=true):∀v∈l,oS S v:=λv e=>aSY (List.all_eq_true.1 h v e)
theorem bV {n0:Nat} {st e:St} (ids:List (Option Nat))(h1:e.so=aH 0 (e.so.map Prod.snd))(h2:e.nx=(e.so.map Prod.snd).length)(f:oY st.so ids ids (e.so.map Prod.snd))(h4:rX ids=true)
 (h5:oL 0 n0 ids) (j:Nat.ble n0 (e.so.map Prod.snd).length=true) (m:aBV st.sl st.so ids e.sl):View n0 st e:=⟨ids,_,h1,h2,f,h4,h5,j,m⟩
theorem aN {n:Int} (h: -9223372036854775808<=n:=by omega)(h':n<9223372036854775808:=by omega):IntKind.i64.wrap n=n:=by rw [IntKind.wrap_i64];omega
structure Hd(Q:Prop):Prop where
 h:Q
theorem Wk {G Q:Prop} (q:Q)(h:Hd Q->G:=by
 intro q
 (repeat((conv=>whnf);first |refine Cd.go ?_ |refine⟨rfl,?_⟩|refine aI ⟨.inl rfl,rfl⟩ ?_ |refine aI rfl ?_ |refine⟨Nat.le_of_ble_eq_true rfl,?_⟩|refine⟨.inl rfl,?_⟩|refine⟨λ_=>⟨rfl,Nat.le_of_ble_eq_true rfl⟩,?_⟩|refine⟨λ_=>Nat.le_of_ble_eq_true rfl,?_⟩|refine⟨λh=>Bool.noConfusion h,?_⟩))
 (conv=>whnf)
 exact q.h):G:=h ⟨q⟩
theorem cL {C1 G Q:Prop} (c1:C1)(q:Q)(h:C1->Hd Q->G:=by
 intro c1 q
 (repeat((conv=>whnf);first |refine Cd.go ?_ |refine⟨rfl,?_⟩|refine aI ⟨.inl rfl,rfl⟩ ?_ |refine aI rfl ?_ |refine⟨Nat.le_of_ble_eq_true rfl,?_⟩|refine⟨.inl rfl,?_⟩|refine⟨λ_=>⟨rfl,Nat.le_of_ble_eq_true rfl⟩,?_⟩|refine⟨λ_=>Nat.le_of_ble_eq_true rfl,?_⟩|refine⟨λh=>Bool.noConfusion h,?_⟩|refine .inl ⟨_,λ_=>⟨aLB rfl,(by exact c1)⟩,.inl rfl,?_⟩))
 (conv=>whnf)
 exact q.h):G:=h c1 ⟨q⟩
theorem Wk2 {C1 C2 G Q:Prop} (c1:C1)(c2:C2)(q:Q)(h:C1->C2->Hd Q->G:=by
 intro c1 c2 q
 (repeat((conv=>whnf);first |refine Cd.go ?_ |refine⟨rfl,?_⟩|refine aI ⟨.inl rfl,rfl⟩ ?_ |refine aI rfl ?_ |refine⟨Nat.le_of_ble_eq_true rfl,?_⟩|refine⟨.inl rfl,?_⟩|refine⟨λ_=>⟨rfl,Nat.le_of_ble_eq_true rfl⟩,?_⟩|refine⟨λ_=>Nat.le_of_ble_eq_true rfl,?_⟩|refine⟨λh=>Bool.noConfusion h,?_⟩|refine .inl ⟨_,λ_=>⟨aLB rfl,(by first |exact c1 |exact c2)⟩,.inl rfl,?_⟩))
 (conv=>whnf)
 exact q.h):G:=h c1 c2 ⟨q⟩
theorem Wk3 {C1 C2 C3 G Q:Prop} (c1:C1)(c2:C2)(c3:C3)(q:Q)(h:C1->C2->C3->Hd Q->G:=by
 intro c1 c2 c3 q
 (repeat((conv=>whnf);first |refine Cd.go ?_ |refine⟨rfl,?_⟩|refine aI ⟨.inl rfl,rfl⟩ ?_ |refine aI rfl ?_ |refine⟨Nat.le_of_ble_eq_true rfl,?_⟩|refine⟨.inl rfl,?_⟩|refine⟨λ_=>⟨rfl,Nat.le_of_ble_eq_true rfl⟩,?_⟩|refine⟨λ_=>Nat.le_of_ble_eq_true rfl,?_⟩|refine⟨λh=>Bool.noConfusion h,?_⟩|refine .inl ⟨_,λ_=>⟨aLB rfl,(by first |exact c1 |exact c2 |exact c3)⟩,.inl rfl,?_⟩))
 (conv=>whnf)
 exact q.h):G:=h c1 c2 c3 ⟨q⟩
theorem Lf {G:Prop} (h:G:=by
 refine⟨[],trivial,rfl,trivial,rfl,?_⟩
 repeat' (first |exact trivial |rfl |exact .inl rfl |exact .inr rfl |exact id |exact zbc |apply And.intro)):G:=h
theorem Cl {G:Prop} (h:G:=by repeat' (first |exact trivial |rfl |exact .inl rfl |exact .inr rfl |exact id |exact zbc |apply And.intro)):G:=h
structure VwP(n0:Nat)(st st':St)(ids:List (Option Nat)):Prop where
 h1:st'.so=aH 0 (st'.so.map Prod.snd)
 h2:st'.nx=(st'.so.map Prod.snd).length
 h3:oY st.so ids ids (st'.so.map Prod.snd)
 h4:rX ids=true
 h5:oL 0 n0 ids
 h6:Nat.ble n0 (st'.so.map Prod.snd).length=true
 h7:aBV st.sl st.so ids st'.sl
theorem Vw {n0:Nat} {st st':St} (ids:List (Option Nat))(h:VwP n0 st st' ids:=by
 refine⟨rfl,rfl,?_,rfl,?_,rfl,?_⟩
 repeat' (first |exact trivial |rfl |exact .inl rfl |exact .inr rfl |exact id |exact zbc |apply And.intro)):View n0 st st':=bV ids h.h1 h.h2 h.h3 h.h4 h.h5 h.h6 h.h7
theorem Vq {n0:Nat} {st st':St} (ids:List (Option Nat))(h:VwP n0 st st' ids:=by
 refine⟨rfl,rfl,?_,?_,?_,?_,?_⟩
 rotate_left 4
 ·repeat' (first |exact trivial |rfl |exact .inl rfl |exact .inr rfl |exact id |exact zbc |apply And.intro)
 ·repeat' (first |exact trivial |rfl |exact .inl rfl |exact .inr rfl |exact id |exact zbc |apply And.intro)
 ·rfl
 ·repeat' (first |exact trivial |rfl |exact .inl rfl |exact .inr rfl |exact id |exact zbc |apply And.intro)
 ·rfl):View n0 st st':=bV ids h.h1 h.h2 h.h3 h.h4 h.h5 h.h6 h.h7
theorem cF {P:Program} {f:FuncId} {fn:Func} {rc:RC} {rvs:List RV} {ob1:List Obj} {args:List V} {res:V} (hf:P.funcs[f]? =some fn)
 (hK:cG 16 0 0 λn0=>Cd P n0 rc ⟨dO 0 args,aH 0 [],n0⟩ (gM P n0 rvs res ob1)) (hb0:fn.body.isSome=true:=by exact rfl)
 (hrv:fn.results.toList.mapM (jJ P)=some rvs:=by exact rfl) (hres:aHK P fn.ntmps (aEM args 0 (kY rvs)) [] (fn.body.getD .skip)=some rc:=by exact rfl) (hn:Nat.ble args.length fn.ntmps=true:=by exact rfl):aM P f [] args res ob1:=
 eY [] hf hb0 hrv hres hn hK
abbrev bK(d s:Nat):iQ:=⟨some d,none,.mv (.t s)⟩
abbrev fN(d g k s:Nat):iQ:=⟨some d,some (g,false),.faddr k (.t s)⟩
abbrev iJ(d g k s:Nat):iQ:=⟨some d,some (g,false),.ld false k (.t s)⟩
abbrev mM(d a b:Nat):iQ:=⟨some d,none,.pick (.t a) (.c (.bool true)) (.t b)⟩
abbrev oO(d:Nat):iQ:=⟨some d,none,.mv (.c (.bool false))⟩
abbrev oQ(d k s:Nat):iQ:=⟨some d,none,.ld true k (.t s)⟩
abbrev qH(d s:Nat):iQ:=⟨some d,none,.len (.t s)⟩
abbrev oP(d k s:Nat):iQ:=⟨some d,none,.faddr k (.t s)⟩
abbrev qG(d k a b:Nat):iQ:=⟨some d,none,.iaddr k (.t a) (.t b)⟩
abbrev sN(d k s:Nat):iQ:=⟨some d,none,.ld false k (.t s)⟩
abbrev aGI(d:Nat)(n:Int):iQ:=⟨some d,none,.mv (.c (.int .i64 n))⟩
abbrev aGK(d a b:Nat):iQ:=⟨some d,none,.bin .lss (.t a) (.t b)⟩
abbrev aGH(d a:Nat)(n:Int):iQ:=⟨some d,none,.bin .add (.t a) (.c (.int .i64 n))⟩
abbrev aJ2(d g s:Nat):iQ:=⟨some d,some (g,false),.mv (.t s)⟩
end Go.Sk
namespace Go.Sk
open Go Go.RowKit
variable [gI]
def vQ(v:V)(K:V->Prop):Prop:=
 match v with
 | .int k n=>∃m,n=m/\K (.int k m)
 | .ptr k i c=>∃j,i=j/\K (.ptr k j c)
 | .rp es cs c=>∃r,cs=r/\K (.rp es r c)
 | .sl k off len=>∃p:Nat×Nat,(off,len)=p/\K (.sl k p.1 p.2)
 | .bool b=>∃c,b=c/\K (.bool c)
 |v=>K v
theorem bQ9(v:V)(K:V->Prop):vQ v K=K v:=by
 unfold vQ;split
 all_goals first
  |rfl
  |exact propext ⟨(by rintro ⟨_,rfl,h⟩;exact h),λh=>⟨_,rfl,h⟩⟩
structure OB(C K:Prop):Prop where
 h:C
 k:K
theorem bEU {C K:Prop} :OB C K=(C/\K):=propext ⟨λh=>⟨h.h,h.k⟩,λh=>⟨h.1,h.2⟩⟩
def bD4(P:Program)(ssl:aY)(sso:aD)(snx:Nat)(ch:List (Nat×Bool))(gc:Bool)(i:I)(K:V->aD->Nat->Prop):Prop:=
 match i with
 | .ld agg n x=>match bP ssl ch x with
   | .ptr k i c=>match sso.get k with
     |some (.row es xs)=>gq gc (decide (i<xs.length)) (∃r,xs.getD i []=r/\rq (decide (c+n<=es)) (K (qP agg es r c n) sso snx))
     |_=>fC P ssl sso snx ch gc (.ld agg n x) K
   |_=>fC P ssl sso snx ch gc (.ld agg n x) K
 | .st m x y=>match ch with
   | []=>match bP ssl [] x,(bP ssl [] y).cells? with
     | .ptr k i c,some cs=>match sso.get k with
       |some (.row es xs)=>rq (decide (i<xs.length)) (rq (decide (c+m<=es)) (rq (decide (cs.length=m)) (rq (cs.all cI) (∃r,xs.getD i []=r/\K .any (sso.set k (.row es (xs.set i (aS es r c cs)))) snx))))
       |_=>fC P ssl sso snx [] gc (.st m x y) K
     |_,_=>fC P ssl sso snx [] gc (.st m x y) K
   |g::r=>fC P ssl sso snx (g::r) gc (.st m x y) K
 | .scat x y=>match bP ssl ch x,bP ssl ch y with
   | .str a,.str b=>OB (gc=true->a.size+b.size<=9223372036854775807) (K (.str (a++b)) sso snx)
   |_,_=>fC P ssl sso snx ch gc (.scat x y) K
 | .s2b x=>match ch with
   | []=>match bP ssl [] x with
     | .str s=>OB (s.size<=9223372036854775807) (K (.sl snx 0 s.size) (sso.set snx (.bb s.data.toList)) (snx+1))
     |_=>fC P ssl sso snx [] gc (.s2b x) K
   |g::r=>fC P ssl sso snx (g::r) gc (.s2b x) K
 | .b2s x=>match unk (bP ssl ch x) with
   | .sl k off len=>match sso.get k with
     |some (.row 1 xs)=>(∃l,iD ((xs.drop off).take len)=some l/\gq gc (decide (off+len<=xs.length)) (K (.str ⟨l.toArray⟩) sso snx))\/(iD ((xs.drop off).take len)=none/\rq (!gc) (K .any sso snx))
     |_=>fC P ssl sso snx ch gc (.b2s x) K
   |_=>fC P ssl sso snx ch gc (.b2s x) K
 | .bin op x y=>fC P ssl sso snx ch gc (.bin op x y) λv S n=>vQ v λv=>K v S n
 | .conv k x=>fC P ssl sso snx ch gc (.conv k x) λv S n=>vQ v λv=>K v S n
 | .pick c a b=>fC P ssl sso snx ch gc (.pick c a b) λv S n=>vQ v λv=>K v S n
 | .un op x=>fC P ssl sso snx ch gc (.un op x) λv S n=>vQ v λv=>K v S n
 | .iaddr es x i=>fC P ssl sso snx ch gc (.iaddr es x i) λv S n=>vQ v λv=>K v S n
 | .slc es x a b=>fC P ssl sso snx ch gc (.slc es x a b) λv S n=>vQ v λv=>K v S n
 | .len x=>fC P ssl sso snx ch gc (.len x) λv S n=>vQ v λv=>K v S n
 | .app es by_ x y=>fC P ssl sso snx ch gc (.app es by_ x y) λv S n=>vQ v λv=>K v S n
 | .mx x y=>fC P ssl sso snx ch gc (.mx x y) λv S n=>vQ v λv=>K v S n
 | .mn x y=>fC P ssl sso snx ch gc (.mn x y) λv S n=>vQ v λv=>K v S n
 |i=>fC P ssl sso snx ch gc i K
theorem aS6(P:Program)(ssl:aY)(m:aD)(j:Nat)(ch:List (Nat×Bool))(B:Bool)(i:I)(K:V->aD->Nat->Prop):bD4 P ssl m j ch B i K=fC P ssl m j ch B i K:=by
 unfold bD4;split
 ·split
  ·rename_i h1;split
   ·rename_i h2;simp only [fC,rdF,h1,h2,aQ4];exact propext ⟨(by rintro ⟨z,_,rfl,h⟩;exact⟨z,h⟩),λh=>⟨h.1,_,rfl,h.2⟩⟩
   ·rfl
  ·rfl
 ·split
  ·split
   ·rename_i h1 h2;split
    ·rename_i z;simp only [fC,sW,wrF,h1,h2,z,gG];exact propext ⟨(by rintro ⟨a,b,c,d,_,rfl,h⟩;exact⟨a,b,c,d,h⟩),λ⟨a,b,c,d,h⟩=>⟨a,b,c,d,_,rfl,h⟩⟩
    ·rfl
   ·rfl
  ·rfl
 ·split
  ·rename_i h1 h2;simp only [fC,rdF,h1,h2,aQ4,bEU,Nat.ble_eq]
  ·rfl
 ·split
  ·split
   ·rename_i h1;simp only [fC,sW,wrF,h1,gG,bEU,Nat.ble_eq]
   ·rfl
  ·rfl
 ·split
  ·rename_i h1;split
   ·rename_i xs h2;simp only [fC,rdF,h1,h2];split
    ·rename_i l f
     exact propext ⟨(by rintro (⟨l',e,h⟩| ⟨e,h⟩);·rw [f] at e;cases e;exact h
                        ·rw [f] at e;cases e),λh=>.inl ⟨l,f,h⟩⟩
    ·rename_i f
     exact propext ⟨(by rintro (⟨l',e,h⟩| ⟨e,h⟩);·rw [f] at e;cases e
                        ·exact h),λh=>.inr ⟨f,h⟩⟩
   ·rfl
  ·rfl
 all_goals first |rfl | (simp only [bQ9])
def aQI(P:Program):List iQ->St->(St->Prop)->Prop
 | [],st,K=>K st
 | ⟨d,g,i⟩::r,⟨ssl,sso,snx⟩,K=>rQ ssl g λch gc=>bD4 P ssl sso snx ch gc i λv S n=>nN v λv=>dH S λS=>cG 64 0 n λn=>aBH ssl d ⟨ch,gc,v⟩ λsl=>aQI P r ⟨sl,S,n⟩ K
theorem aBB(P:Program):∀(l:List iQ) (st:St) (K:St->Prop),aQI P l st K=aEL P l st K
 | [],_,_=>rfl
 | ⟨d,g,i⟩::r,⟨ssl,f,e⟩,K=>by simp only [aQI,aEL,aS6,aBB P r]
def aX5(P:Program):St->Nat->Option Nat->Option (Nat×Bool)->I->(Rec->St->Prop)->Prop
 | ⟨ssl,sso,snx⟩,m,d,g,i,K=>
 cZ (gsl g++aOZ i) λrds=>rP (look ssl rds) λSL=>rQ SL g λch gc=>cZ (tU i SL sso) λT=>dH (iK sso T) λSO=>cZ (gsl g++chs SL) λG=>
  bD4 P SL SO m ch gc i λv S1 n1=>nN v λv=>dH S1 λS1=>cZ (wrI SL T m n1 i) λW=>cZ (W++aGY m S1) λids=>
   (aCK T m S1&&(qN d G&&(aFN (m+16) ids&&(aIE W T&&(aIE (chT ch) G&&(aFR m T&&Nat.ble n1 (m+16)))))))=true/\aE2 SO S1 W
   (aBH ssl d ⟨ch,gc,v⟩ λsl=>dH (aBD sso S1 ids) λso=>K ⟨m,rds++G,chT ch,d,⟨ch,gc,v⟩,T,ids,S1⟩ ⟨sl,so,snx⟩) T
theorem aX6(P:Program)(st:St)(m:Nat)(d:Option Nat)(g:Option (Nat×Bool))(i:I)(K:Rec->St->Prop):aX5 P st m d g i K=aG0 P st m d g i K:=by obtain⟨ssl,f,e⟩:=st;simp only [aX5,aG0,aS6,aKW]
def aMY(P:Program):List iQ->List Nat->St->(List Rec->St->Prop)->Prop
 | [],[],st,K=>K [] st
 | ⟨d,g,i⟩::r,m::ms,st,K=>aX5 P st m d g i λrc st'=>aMY P r ms st' λrs st''=>K (rc::rs) st''
 |_,_,_,_=>False
theorem aMZ(P:Program):∀(l:List iQ) (e:List Nat) (st:St) (K:List Rec->St->Prop),aMY P l e st K=nK P l e st K
 | [],[],_,_=>rfl
 | [],_::_,_,_=>rfl
 |_::_,[],_,_=>rfl
 | ⟨d,g,i⟩::r,m::e,st,K=>by simp only [aMY,nK,aX6,aMZ P r]
structure aM8(P:Program)(n0:Nat)(c:RC)(st:St)(K:Ex->St->Prop):Prop where
 h:∃(α:Type) (I:α->Prop) (F:α->St) (m:α->Nat),(∃a,I a/\View n0 st (F a))/\∀a,I a->Cd P n0 c (F a) (aRE n0 I F m a K)
structure aFL {α:Type} (n0:Nat)(I:α->Prop)(F:α->St)(m:α->Nat)(a:α)(st:St):Prop where
 h:∃a',I a'/\View n0 st (F a')/\m a'<m a
def aWH {α:Type} (n0:Nat)(I:α->Prop)(F:α->St)(m:α->Nat)(a:α)(K:Ex->St->Prop)(e:Ex)(st':St):Prop:=
 match e with
 | .normal=>aFL n0 I F m a st'
 | .exit id=>K (.exit id) st'
 | .ret=>K .ret st'
theorem aU4 {α:Type} (n0:Nat)(I:α->Prop)(F:α->St)(m:α->Nat)(a:α)(K:Ex->St->Prop):aWH n0 I F m a K=aRE n0 I F m a K:=by
 funext e f
 cases e with
 |normal=>exact propext ⟨λh=>h.h,λh=>⟨h⟩⟩
 |_=>rfl
structure pG(P:Program)(n0:Nat)(rvs:List RV)(res:V)(ob1:List Obj)(e:Ex)(st:St):Prop where
 h:gM P n0 rvs res ob1 e st
theorem aK6(P:Program)(n0:Nat)(rvs:List RV)(j:V)(f:List Obj):pG P n0 rvs j f=gM P n0 rvs j f:=by
 funext e st
 exact propext ⟨λh=>h.h,λh=>⟨h⟩⟩
theorem aG(C:List Ct) {P:Program} {f:FuncId} {fn:Func} {rc:RC} {rvs:List RV} {ob0 j:List Obj} {args:List V} {m:V} (E:P.funcs[f]? =some fn)(z:fn.body.isSome=true)
 (B:fn.results.toList.mapM (jJ P)=some rvs) (e:aHK P fn.ntmps (aEM args 0 (kY rvs)) C (fn.body.getD .skip)=some rc) (F:Nat.ble args.length fn.ntmps=true)
 (D:cG 16 0 ob0.length λn0=>Cd P n0 rc ⟨dO 0 args,aH 0 ob0,n0⟩ (pG P n0 rvs m j)):aM P f ob0 args m j:=
 eY C E z B e F (by simpa only [aK6] using D)
def CdQ(P:Program)(n0:Nat)(rc:RC)(st:St)(K:Ex->St->Prop):Prop:=
 match rc with
 | .reg l kill=>aQI P l st λ| ⟨sl0,so0,nx0⟩=>eX kill sl0 λsl=>K .normal ⟨sl,so0,nx0⟩
 | .dreg b0 n l kill an ms=>match Nat.ble st.nx b0 with
   |true=>aMY P l ms ⟨st.sl,st.so,n⟩ λ|recs,⟨sl0,so0,nx0⟩=>nJ recs an 0=true/\eX kill (look sl0 (qJ sl0)) λsl=>K .normal ⟨sl,so0,nx0⟩
   |false=>aMY P l (shM st.nx ms) ⟨st.sl,st.so,n+st.nx⟩ λ|recs,⟨sl0,so0,nx0⟩=>nJ recs an 0=true/\eX kill (look sl0 (qJ sl0)) λsl=>K .normal ⟨sl,so0,nx0⟩
 | .loop c=>aM8 P n0 c st K
 |rc=>CdB P n0 rc st K
theorem Cd.gq {P:Program} {n0:Nat} {rc:RC} {st:St} {K:Ex->St->Prop} (h:CdQ P n0 rc st K):Cd P n0 rc st K:=by
 cases rc with
 |reg l k=>exact Cd.reg (by rw [<-aBB];exact h)
 |dreg j n l e f m=> unfold CdQ at h;simp only [aMZ] at h;exact Cd.go h
 |loop c=>exact Cd.loop h.h
 |_=>exact Cd.go h
omit [gI] in
theorem wI {n:Int} (h: -9223372036854775808<=n)(e:n<9223372036854775808):IntKind.i64.wrap n=n:=by rw [IntKind.wrap_i64];omega
omit [gI] in
theorem aCV(x:Nat)(h:x<9223372036854775808):(BitVec.ofInt 64 (x:Int)).toNat=x:=by rw [BitVec.toNat_ofInt];omega
omit [gI] in
theorem bM3 {x y:Nat} (e:x<9223372036854775808)(f:y<9223372036854775808):fX .and .i64 (x:Int) (y:Int)=((x &&& y:Nat):Int):=by have h:=Nat.and_le_left (n:=x) (m:=y);show IntKind.i64.wrap (((BitVec.ofInt 64 (x:Int)&&& BitVec.ofInt 64 (y:Int)).toNat:Nat):Int)=_;rw [BitVec.toNat_and,aCV x e,aCV y f];exact wI (by omega) (by omega)
omit [gI] in
theorem bOr {x y:Nat} (e:x<9223372036854775808)(f:y<9223372036854775808):fX .or .i64 (x:Int) (y:Int)=((x ||| y:Nat):Int):=by
 have h:=Nat.or_lt_two_pow (n:=63) e f;show IntKind.i64.wrap (((BitVec.ofInt 64 (x:Int)||| BitVec.ofInt 64 (y:Int)).toNat:Nat):Int)=_
 rw [BitVec.toNat_or,aCV x e,aCV y f];exact wI (by omega) (by omega)
omit [gI] in
theorem bR3 {x y:Nat} (e:x<9223372036854775808)(f:y<9223372036854775808):fX .xor .i64 (x:Int) (y:Int)=((x ^^^ y:Nat):Int):=by have h:=Nat.xor_lt_two_pow (n:=63) e f;show IntKind.i64.wrap (((BitVec.ofInt 64 (x:Int)^^^ BitVec.ofInt 64 (y:Int)).toNat:Nat):Int)=_;rw [BitVec.toNat_xor,aCV x e,aCV y f];exact wI (by omega) (by omega)
omit [gI] in
theorem bM4 {x b:Nat} (e:x<9223372036854775808)(f:(OfNat.ofNat b:Nat)<9223372036854775808):fX .and .i64 (x:Int) (OfNat.ofNat b:Int)=((x &&& (OfNat.ofNat b:Nat):Nat):Int):=bM3 e f
omit [gI] in
theorem bR2 {x b:Nat} (e:x<9223372036854775808)(f:(OfNat.ofNat b:Nat)<9223372036854775808):fX .or .i64 (x:Int) (OfNat.ofNat b:Int)=((x ||| (OfNat.ofNat b:Nat):Nat):Int):=bOr e f
omit [gI] in
theorem bSK {a k:Nat} (f:k<63)(h:a*2^k<9223372036854775808):IntKind.i64.wrap ((a:Int)*2^min (k:Int).toNat IntKind.i64.bits)=((a*2^k:Nat):Int):=by
 have e:min (k:Int).toNat IntKind.i64.bits=k:=by show min k 64=k;omega
 rw [e,show(a:Int)*2^k=((a*2^k:Nat):Int) by simp];exact wI (by omega) (by omega)
omit [gI] in
theorem bSJ {k:Nat} (e:k<62):IntKind.i64.wrap (1*2^min (k:Int).toNat IntKind.i64.bits)=((2^k:Nat):Int):=by
 have h:2^k<2^62:=Nat.pow_lt_pow_right (by omega) e;have :=bSK (a:=1) (k:=k) (by omega) (by omega)
 rwa [Nat.one_mul] at this
omit [gI] in
theorem bSL {a k:Nat} (j:k<=64):(a:Int).fdiv (2^min (k:Int).toNat IntKind.i64.bits)=((a/2^k:Nat):Int):=by
 have e:min (k:Int).toNat IntKind.i64.bits=k:=by show min k 64=k;omega
 have f:(2:Int)^k=((2^k:Nat):Int):=by simp
 rw [e,f,Int.fdiv_eq_ediv_of_nonneg _ (Int.natCast_nonneg _)];exact(Int.natCast_ediv _ _).symm
omit [gI] in
theorem divN {a b:Nat} (e:a<9223372036854775808):IntKind.i64.wrap ((a:Int).tdiv (b:Int))=((a/b:Nat):Int):=by have h:=Nat.div_le_self a b;rw [show(a:Int).tdiv (b:Int)=((a/b:Nat):Int) by rw [Int.tdiv_eq_ediv_of_nonneg (by omega)];exact(Int.natCast_ediv _ _).symm];generalize a/b=c at *;exact wI (by omega) (by omega)
omit [gI] in
theorem bR4 {a b:Nat} (e:a<9223372036854775808):IntKind.i64.wrap ((a:Int).tdiv (OfNat.ofNat b:Int))=((a/(OfNat.ofNat b:Nat):Nat):Int):=divN e
omit [gI] in
theorem bMU {a b:Nat} :(a:Int).tmod (b:Int)=((a%b:Nat):Int):=by rw [Int.tmod_eq_emod_of_nonneg (by omega)];exact(Int.natCast_emod _ _).symm
omit [gI] in
theorem bRH {a b:Nat} :(a:Int).tmod (OfNat.ofNat b:Int)=((a%(OfNat.ofNat b:Nat):Nat):Int):=bMU
omit [gI] in
theorem wA {i j:Nat} (h:i+j<9223372036854775807):IntKind.i64.wrap ((i:Int)+(j:Int))=((i+j:Nat):Int):=by rw [wI (by omega) (by omega)];omega
omit [gI] in
theorem wAL {i b:Nat} (h:i+(OfNat.ofNat b:Nat)<9223372036854775807):IntKind.i64.wrap ((i:Int)+(OfNat.ofNat b:Int))=((i+(OfNat.ofNat b:Nat):Nat):Int):=wA h
omit [gI] in
theorem wLA {i b:Nat} (h:(OfNat.ofNat b:Nat)+i<9223372036854775807):IntKind.i64.wrap ((OfNat.ofNat b:Int)+(i:Int))=(((OfNat.ofNat b:Nat)+i:Nat):Int):=wA h
omit [gI] in
theorem wM {i j:Nat} (h:i*j<9223372036854775807):IntKind.i64.wrap ((i:Int)*(j:Int))=((i*j:Nat):Int):=by rw [<-Int.natCast_mul];exact wI (by omega) (by omega)
omit [gI] in
theorem wML {i b:Nat} (h:i*(OfNat.ofNat b:Nat)<9223372036854775807):IntKind.i64.wrap ((i:Int)*(OfNat.ofNat b:Int))=((i*(OfNat.ofNat b:Nat):Nat):Int):=wM h
omit [gI] in
theorem wD {i j:Nat} (h:j<=i)(h2:i<9223372036854775807):IntKind.i64.wrap ((i:Int)- (j:Int))=((i-j:Nat):Int):=by rw [wI (by omega) (by omega)];omega
omit [gI] in
theorem wP {i:Nat} (h:i<9223372036854775807):IntKind.i64.wrap (((i+1:Nat):Int)-1)=(i:Int):=by rw [wI (by omega) (by omega)];omega
omit [gI] in
theorem wDL {i b:Nat} (h:(OfNat.ofNat b:Nat)<=i)(h2:i<9223372036854775807):IntKind.i64.wrap ((i:Int)- (OfNat.ofNat b:Int))=((i- (OfNat.ofNat b:Nat):Nat):Int):=wD h h2
omit [gI] in
theorem wLD {i b:Nat} (h:i<=(OfNat.ofNat b:Nat))(h2:(OfNat.ofNat b:Nat)<9223372036854775807):IntKind.i64.wrap ((OfNat.ofNat b:Int)- (i:Int))=(((OfNat.ofNat b:Nat)-i:Nat):Int):=wD h h2
omit [gI] in
theorem ixN {n:Nat} :0+(n:Int).toNat=n:=by rw [Nat.zero_add];rfl
omit [gI] in
theorem ixL {n:Nat} :0+(OfNat.ofNat n:Int).toNat=(OfNat.ofNat n:Nat):=ixN
omit [gI] in
theorem mxN {a b:Nat} :max (a:Int) (b:Int)=((max a b:Nat):Int):=by omega
omit [gI] in
theorem mxL {a b:Nat} :max (a:Int) (OfNat.ofNat b:Int)=((max a (OfNat.ofNat b:Nat):Nat):Int):=mxN
omit [gI] in
theorem mnN {a b:Nat} :min (a:Int) (b:Int)=((min a b:Nat):Int):=by omega
omit [gI] in
theorem mnL {a b:Nat} :min (a:Int) (OfNat.ofNat b:Int)=((min a (OfNat.ofNat b:Nat):Nat):Int):=mnN
omit [gI] in
theorem Nz {a b:Int} (h:a=b:=by first |with_reducible exact wP (by omega)|with_reducible exact wAL (by omega)|with_reducible exact wA (by omega)|with_reducible exact wDL (by omega) (by omega)|with_reducible exact wD (by omega) (by omega)|with_reducible exact wML (by omega)|with_reducible exact bR4 (by omega)|with_reducible exact bRH |with_reducible exact bM3 (by omega) (by omega)|with_reducible exact bM4 (by omega) (by omega)|with_reducible exact bOr (by omega) (by omega)|with_reducible exact bR2 (by omega) (by omega)|with_reducible exact bSJ (by omega)|with_reducible exact wM (by omega)|with_reducible exact divN (by omega)|with_reducible exact bMU |with_reducible exact wLA (by omega)|with_reducible exact wLD (by omega) (by omega)|with_reducible exact mxN |with_reducible exact mxL |with_reducible exact mnN |with_reducible exact mnL |with_reducible exact bSL (by omega)|with_reducible exact bR3 (by omega) (by omega)|with_reducible exact wI (by omega) (by omega)):a=b:=h
theorem eqT {a b:Int} (h:a=b):(a==b)=true:=zbe.2 h
theorem eqF {a b:Int} (h:a≠b):(a==b)=false:=zbn.2 h
theorem neT {a b:Int} (h:a≠b):(a != b)=true:=bne_iff_ne.2 h
theorem neF {a b:Int} (h:a=b):(a != b)=false:=bne_eq_false_iff_eq.2 h
theorem deT {p:Prop} [Decidable p](h:p):decide p=true:=zdt h
theorem deF {p:Prop} [Decidable p](h:¬p):decide p=false:=zdf h
theorem Bz {a b:Bool} (h:a=b:=by first |with_reducible exact deT (by omega)|with_reducible exact deF (by omega)|with_reducible exact eqT (by omega)|with_reducible exact eqF (by omega)|with_reducible exact neT (by omega)|with_reducible exact neF (by omega)):a=b:=h
theorem bFL:∀n:Nat,iD (List.replicate n [V.int .u8 0])=some (List.replicate n 0)
 |0=>rfl
 |n+1=>by rw [List.replicate_succ,iD,bFL n];rfl
theorem bHS {n m:Nat} (h:n<=m):iD (List.take n (List.drop 0 (List.replicate m [V.int .u8 0])))=some (List.replicate n 0):=by rw [List.drop_zero,List.take_replicate,Nat.min_eq_left h,bFL]
theorem asI {a b:Int} (h:a=b):a=b:=h
theorem Nl {a b:Int} (h:a=b:=by simp;rfl):a=b:=h
theorem Np {o l l':Nat} (h:l=l':=by simp;rfl):(o,l)=(o,l'):=by rw [h]
theorem bHH {α:Type} {xs:List α} {n:Nat} (h:xs.length<=n):List.take n (List.drop 0 xs)=xs:=by rw [List.drop_zero,List.take_of_length_le h]
theorem Sd {p:Prop} (h:p:=by(fail_if_success exact True.intro);first |omega |exact bHH (by first |omega | (simp;done)| (simp;omega))| (simp(disch:=omega) [wI,List.take_of_length_le];done)| (simp(disch:=omega) only [wI];omega)| (simp(disch:=omega) [wI,List.take_of_length_le];omega)):p:=h
theorem bKC(x:UInt8):0<=(x.toNat:Int)/\(x.toNat:Int)<256:=by have :=x.toNat_lt;omega
theorem aPU {x:Bool} {A B:Prop} (h:x=true)(a:A):cq x A B:=by rw [aRQ];exact⟨λ_=>a,λe=>by rw [h] at e;cases e⟩
theorem aPT {x:Bool} {A B:Prop} (h:x=false)(b:B):cq x A B:=by rw [aRQ];exact⟨(λe=>by rw [h] at e;cases e),λ_=>b⟩
theorem aX3 {p:Prop} [Decidable p] {A B:Prop} (h:p)(a:A):cq (decide p) A B:=aPU (zdt h) a
theorem aX2 {p:Prop} [Decidable p] {A B:Prop} (h:¬p)(b:B):cq (decide p) A B:=aPT (zdf h) b
theorem aKQ {P:Program} {f:FuncId} {o j:List Obj} {a b:List V} {r:V} (h:aM P f o a r j)(e:b=a):aM P f o b r j:=e▸h
theorem bAI {xs:List (List V)} {i n:Nat} {r:List V} (h:xs.getD n []=r)(e:i=n):xs.getD i []=r:=by rw [e,h]
theorem aQ3 {l:List Nat} {K:List Nat->Prop} (h:cZ l K):K l:=by rwa [fT] at h
theorem ucQ {P:Program} {f:FuncId} {args:List V} {S:aD} {m:Nat} {K:V->aD->Nat->Prop} (h:cZ (aNO S args) λL=>∃ob0,rV S L L=some ob0/\∃j z,aM P f ob0 (args.map (arg2 L)) z j/\jA L=true/\Nat.ble L.length j.length=true/\Nat.ble j.length (L.length+16)=true/\K (aBL L m z) (lP S L (j.map (lN L m)) m) (m+16)):pR P f args S m K:=by obtain⟨B,e,C,r,h1,h2⟩:=aQ3 h;exact⟨_,B,C,r,h1,nT e,h2⟩
theorem bC7 {a b:V} {l m:List V} (h:a=b)(k:l=m):a::l=b::m:=by rw [h,k]
theorem bHR {l m:List V} (h:l=m):V.agg l=V.agg m:=by rw [h]
theorem int_eq {k:IntKind} {n m:Int} (h:n=m):V.int k n=V.int k m:=by rw [h]
theorem bC3 {n m:Bool} (h:n=m):V.bool n=V.bool m:=by rw [h]
theorem bIP {k:Nat} {b:Bool} {n m:List (List V)} (h:n=m):V.lst k b n=V.lst k b m:=by rw [h]
theorem bQ7 {k a b c d:Nat} (h:a=c)(e:b=d):V.sl k a b=V.sl k c d:=by rw [h,e]
theorem Ag {a b:List V} (h:a=b:=by
 repeat' (first |refine bC7 ?_ ?_ |rfl |refine bHR ?_ |refine int_eq ?_ |refine bC3 ?_ |refine bIP ?_ |refine bQ7 ?_ ?_ |exact Sd)):a=b:=h
theorem Cz {G:Prop} (h:G:=by repeat' (first |exact trivial |rfl |exact .inl rfl |exact .inr rfl |exact id |exact zbc |refine And.intro ?_ ?_ |exact Sd | ((conv=>whnf);exact Sd))):G:=h
theorem Lz {G:Prop} (h:G:=by
 (try refine pG.mk ?_)
 (repeat((conv=>whnf);first |refine And.intro (λ_=>⟨rfl,Nat.le_of_ble_eq_true rfl⟩) ?_ |refine And.intro (λ_=>Nat.le_of_ble_eq_true rfl) ?_ |refine And.intro (Nat.le_of_ble_eq_true rfl) ?_ |refine And.intro (λ_=>Sd) ?_))
 (conv=>whnf)
 refine⟨[],trivial,rfl,trivial,rfl,?_⟩
 repeat' (first |exact trivial |rfl |exact .inl rfl |exact .inr rfl |exact id |exact zbc |refine And.intro ?_ ?_ |exact Sd | ((conv=>whnf);exact Sd))):G:=h
theorem Vz {n0:Nat} {st st':St} (ids:List (Option Nat))(h:VwP n0 st st' ids:=by
 refine⟨rfl,rfl,?_,rfl,?_,rfl,?_⟩
 repeat' (first |exact trivial |rfl |exact .inl rfl |exact .inr rfl |exact id |exact zbc |refine And.intro ?_ ?_ |exact Sd | ((conv=>whnf);exact Sd))):View n0 st st':=bV ids h.h1 h.h2 h.h3 h.h4 h.h5 h.h6 h.h7
theorem Wx {G Q:Prop} (q:Q)(h:Hd Q->G:=by
 intro q
 (repeat((conv=>whnf);(fail_if_success refine pG.mk ?_);(fail_if_success refine aM8.mk ?_);(fail_if_success refine aFL.mk ?_);first |refine Cd.gq ?_ |refine OB.mk Sd ?_ |refine OB.mk (λ_=>Sd) ?_ |refine Exists.intro _ (And.intro Nz ?_)|refine Exists.intro _ (And.intro ixN ?_)|refine Exists.intro _ (And.intro ixL ?_)|refine Exists.intro _ (And.intro (asI (by assumption)) ?_)|refine Or.inl (Exists.intro _ (And.intro (bHS Sd) ?_))|refine Or.inl (Exists.intro _ (And.intro (by assumption) ?_))|refine Exists.intro true (And.intro rfl ?_)|refine Exists.intro false (And.intro rfl ?_)|refine Exists.intro _ (And.intro Bz ?_)|refine Exists.intro _ (And.intro Nl ?_)|refine Exists.intro _ (And.intro Np ?_)|refine Exists.intro _ (And.intro (bAI (by assumption) (by omega)) ?_)|refine Exists.intro _ (And.intro rfl ?_)|refine And.intro rfl ?_ |refine aI rfl ?_ |refine aI (bKC _) ?_ |refine aI Sd ?_ |refine jS (λ_=>Sd) ?_ |refine .inl ⟨.bool false,λh=>Bool.noConfusion (show false=true from h),.inr rfl,?_⟩|refine .inl ⟨_,λ_=>⟨aLB rfl,(by assumption)⟩,.inl rfl,?_⟩| (refine .inr ⟨λ_=>ucQ ?_,(by intro h;cases h)⟩;(conv=>whnf);refine Exists.intro _ (And.intro rfl ?_);refine⟨_,_,(by assumption),rfl,(by rfl),(by rfl),?_⟩)|refine aPU (by assumption) ?_ |refine aPT (by assumption) ?_ |refine aX3 (by omega) ?_ |refine aX2 (by omega) ?_ |refine aPU Sd ?_ |refine aPT Sd ?_ |refine cE Sd Sd ?_ |refine aTC Sd Sd Sd Sd ?_ |refine And.intro (Nat.le_of_ble_eq_true rfl) ?_ |refine And.intro (.inl rfl) ?_ |refine And.intro (λ_=>⟨rfl,Nat.le_of_ble_eq_true rfl⟩) ?_ |refine And.intro (λ_=>Nat.le_of_ble_eq_true rfl) ?_ |refine And.intro (λh=>Bool.noConfusion h) ?_ |refine And.intro (λ_=>Sd) ?_ |refine And.intro Sd ?_ |refine .inl ⟨_,λ_=>⟨aLB rfl,aKQ (by assumption) Ag⟩,.inl rfl,?_⟩))
 (conv=>whnf)
 exact q.h):G:=h ⟨q⟩
theorem Wz {G:Prop} (h:G:=by refine Wx ?_;exact Lz):G:=h
theorem Wx2 {C1 C2 G Q:Prop} (c1:C1)(c2:C2)(q:Q)(h:C1->C2->Hd Q->G:=by
 intro c1 c2 q
 (repeat((conv=>whnf);(fail_if_success refine pG.mk ?_);(fail_if_success refine aM8.mk ?_);(fail_if_success refine aFL.mk ?_);first |refine Cd.gq ?_ |refine OB.mk Sd ?_ |refine OB.mk (λ_=>Sd) ?_ |refine Exists.intro _ (And.intro Nz ?_)|refine Exists.intro _ (And.intro ixN ?_)|refine Exists.intro _ (And.intro ixL ?_)|refine Exists.intro _ (And.intro (asI (by assumption)) ?_)|refine Or.inl (Exists.intro _ (And.intro (bHS Sd) ?_))|refine Or.inl (Exists.intro _ (And.intro (by assumption) ?_))|refine Exists.intro true (And.intro rfl ?_)|refine Exists.intro false (And.intro rfl ?_)|refine Exists.intro _ (And.intro Bz ?_)|refine Exists.intro _ (And.intro Nl ?_)|refine Exists.intro _ (And.intro Np ?_)|refine Exists.intro _ (And.intro (bAI c1 (by omega)) ?_)|refine Exists.intro _ (And.intro (bAI c2 (by omega)) ?_)|refine Exists.intro _ (And.intro (bAI (by assumption) (by omega)) ?_)|refine Exists.intro _ (And.intro rfl ?_)|refine And.intro rfl ?_ |refine aI rfl ?_ |refine aI (bKC _) ?_ |refine aI Sd ?_ |refine jS (λ_=>Sd) ?_ |refine .inl ⟨.bool false,λh=>Bool.noConfusion (show false=true from h),.inr rfl,?_⟩|refine .inl ⟨_,λ_=>⟨aLB rfl,(by assumption)⟩,.inl rfl,?_⟩| (refine .inr ⟨λ_=>ucQ ?_,(by intro h;cases h)⟩;(conv=>whnf);refine Exists.intro _ (And.intro rfl ?_);refine⟨_,_,(by assumption),rfl,(by rfl),(by rfl),?_⟩)|refine aPU (by assumption) ?_ |refine aPT (by assumption) ?_ |refine aX3 (by omega) ?_ |refine aX2 (by omega) ?_ |refine aPU Sd ?_ |refine aPT Sd ?_ |refine cE Sd Sd ?_ |refine aTC Sd Sd Sd Sd ?_ |refine And.intro (Nat.le_of_ble_eq_true rfl) ?_ |refine And.intro (.inl rfl) ?_ |refine And.intro (λ_=>⟨rfl,Nat.le_of_ble_eq_true rfl⟩) ?_ |refine And.intro (λ_=>Nat.le_of_ble_eq_true rfl) ?_ |refine And.intro (λh=>Bool.noConfusion h) ?_ |refine And.intro (λ_=>Sd) ?_ |refine And.intro Sd ?_ |refine .inl ⟨_,λ_=>⟨aLB rfl,aKQ (by assumption) Ag⟩,.inl rfl,?_⟩))
 (conv=>whnf)
 exact q.h):G:=h c1 c2 ⟨q⟩
end Go.Sk
namespace Go.Sk
open Go Go.RowKit
variable [gI]
def vW:RC->List Nat
 | .reg l _=>pI l
 | .dreg _ _ l _ _ _=>pI l
 | .seq a b=>vW a++vW b
 | .cut a b=>vW a++vW b
 | .regc a b _=>pI a++pI b
 | .regv a _ b _=>pI a++pI b
 | .cond _ a b=>vW a++vW b
 | .block _ c=>vW c
 | .loop c=>vW c
 | .uloop c=>vW c
 |_=> []
def aQ9(ds:List Nat):aY->aY
 | []=> []
 | (d,⟨_,g,v⟩)::r=>match iS d ds with
   |true=>aQ9 ds r
   |false=>(d,⟨[],g,v⟩)::aQ9 ds r
def aQA(L ds:List Nat):aY->aY
 | []=> []
 | (d,⟨_,g,v⟩)::r=>match iS d ds with
   |true=>aQA L ds r
   |false=>(d,⟨[],g,arg2 L v⟩)::aQA L ds r
def idB:List Nat->Nat->Bool
 | [],_=>true
 |k::r,j=>match Nat.beq k j with
  |true=>idB r (j+1)
  |false=>false
def bIM(L ds:List Nat)(sl:aY):aY:=match idB L 0 with
 |true=>aQ9 ds sl
 |false=>aQA L ds sl
def aNM {α:Type} :List (Nat×α)->List Nat
 | []=> []
 | (k,_)::r=>k::aNM r
def bH7:List (Nat×V)->aY->aY
 | [],l=>l
 | (d,v)::r,l=>(d,⟨[],true,v⟩)::bH7 r l
def bH6:List (Nat×Obj)->aD->aD
 | [],S=>S
 | (k,o)::r,S=>bH6 r (S.set k o)
def bG1(L:List Nat):aD->Nat->aD
 | [],_=> []
 | (_,o)::r,j=>(j,aUA L o)::bG1 L r (j+1)
def bMY(S:aD):aD:=match idB (aNM S) 0 with
 |true=>S
 |false=>bG1 (aNM S) S 0
def bMS(st:St)(os:List (Nat×Obj)):aD:=bH6 os (bMY st.so)
def lpF(c:RC)(st:St)(us:List (Nat×V))(os:List (Nat×Obj)):St:= ⟨bH7 us (bIM (aNM st.so) (vW c++aNM us) st.sl),bMS st os,(bMS st os).length⟩
def aXQ(st:St)(K:St->Prop):Prop:=rP st.sl λsl=>dH st.so λso=>cG 64 0 st.nx λnx=>K ⟨sl,so,nx⟩
theorem aXR(st:St)(K:St->Prop):aXQ st K=K st:=by unfold aXQ;rw [nM,eH,dN]
theorem Lp {P:Program} {n0:Nat} {c:RC} {st:St} {K:Ex->St->Prop} {α:Type} (I:α->Prop)(j:α->List (Nat×V))(f:α->List (Nat×Obj))(m:α->Nat)(e:α)(z:I e)(hv:View n0 st (lpF c st (j e) (f e)))
 (C:∀a,I a->aXQ (lpF c st (j a) (f a)) λD=>Cd P n0 c D (aWH n0 I (λa=>lpF c st (j a) (f a)) m a K)):aM8 P n0 c st K:=
 ⟨α,I,_,m,⟨e,z,hv⟩,λa B=>by have :=C a B;rw [aXR,aU4] at this;exact this⟩
theorem Vr {n0:Nat} {st st':St} (ids:List (Option Nat))(h:VwP n0 st st' ids:=by
 refine⟨rfl,rfl,?_,?_,?_,?_,?_⟩
 rotate_left 4
 ·repeat' (first |exact trivial |rfl |exact .inl rfl |exact .inr rfl |exact id |exact zbc |refine And.intro ?_ ?_ |exact Sd | ((conv=>whnf);exact Sd))
 ·repeat' (first |exact trivial |rfl |exact .inl rfl |exact .inr rfl |exact id |exact zbc |refine And.intro ?_ ?_ |exact Sd | ((conv=>whnf);exact Sd))
 ·rfl
 ·repeat' (first |exact trivial |rfl |exact .inl rfl |exact .inr rfl |exact id |exact zbc |refine And.intro ?_ ?_ |exact Sd | ((conv=>whnf);exact Sd))
 ·rfl):View n0 st st':=bV ids h.h1 h.h2 h.h3 h.h4 h.h5 h.h6 h.h7
theorem Va {n0:Nat} {st st':St} (h:View n0 st st':=by first |exact Vz [] |exact Vr [some _] |exact Vr [some _,some _] |exact Vr [some _,some _,some _] |exact Vr [some _,some _,some _,some _] |exact Vr [some _,some _,some _,some _,some _] |exact Vr [some _,some _,some _,some _,some _,some _]):View n0 st st':=h
theorem iF {p:Prop} [Decidable p] {A B:Prop} (h:p->A)(k:¬p->B):cq (decide p) A B:=aC (λe=>h (of_decide_eq_true e)) (λe=>k (of_decide_eq_false e))
theorem bM7 {a b:Int} {A B:Prop} (h:a=b->A)(k:a≠b->B):cq (a==b) A B:=aC (λe=>h (eq_of_beq e)) (λe=>k (zbn.1 e))
theorem bC9 {a b:Int} {A B:Prop} (h:a≠b->A)(k:a=b->B):cq (a != b) A B:=aC (λe=>h (bne_iff_ne.1 e)) (λe=>k (bne_eq_false_iff_eq.1 e))
theorem Le {α:Type} {n0:Nat} {I:α->Prop} {F:α->St} {m:α->Nat} {a:α} {st:St} (b:α)(hI:I b:=by first |exact Sd | (dsimp only;exact Sd))(hv:View n0 st (F b):=by exact Va)(hm:m b<m a:=by first |exact Sd | (dsimp only;exact Sd)):aFL n0 I F m a st:=⟨b,hI,hv,hm⟩
end Go.Sk
namespace Go.Sk
open Go Go.RowKit
variable [gI]
theorem Lo {G:Prop} (h:G:=by
 (try refine pG.mk ?_)
 (repeat((conv=>whnf);first |refine And.intro (λ_=>⟨rfl,Nat.le_of_ble_eq_true rfl⟩) ?_ |refine And.intro (λ_=>Nat.le_of_ble_eq_true rfl) ?_ |refine And.intro (Nat.le_of_ble_eq_true rfl) ?_ |refine And.intro (λ_=>Sd) ?_))
 (conv=>whnf)
 refine⟨[some 0],?_,rfl,?_,rfl,?_⟩
 all_goals(repeat' (first |exact trivial |rfl |exact .inl rfl |exact .inr rfl |exact id |exact zbc |refine And.intro ?_ ?_ |exact Sd | ((conv=>whnf);exact Sd)))):G:=h
theorem mkT {b n:Nat} (h:b*n<=1000000)(f:n<=1000000):mkB b (n:Int)=true:=by
 rw [aQD (by omega)];have e:(b:Int)*(n:Int)=((b*n:Nat):Int):=by simp
 rw [e];omega
theorem Wo {G:Prop} (h:G:=by refine Wx ?_;exact Lo):G:=h
end Go.Sk
namespace Go.Sk
open Go Go.RowKit
variable [gI]
def aPG(k:Nat)(l:List Nat)(K:List Nat->Prop):Prop:=match iS k l with
 |true=>K l
 |false=>cZ (l++ [k]) K
theorem bBU(k:Nat)(l:List Nat)(K:List Nat->Prop):aPG k l K=K (addN k l):=by
 unfold aPG addN
 cases iS k l with
 |true=>rfl
 |false=>exact fT _ _
def aYN:V->List Nat->(List Nat->Prop)->Prop
 | .ptr k _ _,l,K=>cG 64 0 k λk=>aPG k l K
 | .sl k _ _,l,K=>cG 64 0 k λk=>aPG k l K
 | .slx k _ _,l,K=>cG 64 0 k λk=>aPG k l K
 | .slk k _ _ _,l,K=>cG 64 0 k λk=>aPG k l K
 | .mp k,l,K=>cG 64 0 k λk=>aPG k l K
 |_,l,K=>K l
theorem aL2(v:V)(l:List Nat)(K:List Nat->Prop):aYN v l K=K (nm1 v l):=by
 cases v <;> simp only [aYN,nm1,dN,bBU]
def aDR:List V->List Nat->(List Nat->Prop)->Prop
 | [],l,K=>K l
 |v::r,l,K=>aYN v l λl=>aDR r l K
theorem aB7:∀(cs:List V) (l:List Nat) (K:List Nat->Prop),aDR cs l K=K (aNV cs l)
 | [],_,_=>rfl
 |v::r,l,K=>by simp only [aDR,aNV,aL2,aB7 r]
def aVC:List V->List Nat->(List Nat->Prop)->Prop
 | [],l,K=>K l
 | .agg cs::r,l,K=>aDR cs l λl=>aVC r l K
 | .fn _ cs::r,l,K=>aDR cs l λl=>aVC r l K
 |v::r,l,K=>aYN v l λl=>aVC r l K
theorem aSI:∀(cs:List V) (l:List Nat) (K:List Nat->Prop),aVC cs l K=K (nm2.nmT cs l)
 | [],_,_=>rfl
 |v::r,l,K=>by cases v <;> simp only [aVC,nm2.nmT,aL2,aB7,aSI r]
def bIW:V->List Nat->(List Nat->Prop)->Prop
 | .agg cs,l,K=>aDR cs l K
 | .fn _ cs,l,K=>aDR cs l K
 | .tup cs,l,K=>aVC cs l K
 |v,l,K=>aYN v l K
theorem bDD(v:V)(l:List Nat)(K:List Nat->Prop):bIW v l K=K (nm2 v l):=by
 cases v <;> simp only [bIW,nm2,aL2,aB7,aSI]
def aSH:List V->List Nat->(List Nat->Prop)->Prop
 | [],l,K=>K l
 |v::r,l,K=>bIW v l λl=>aSH r l K
theorem aNW:∀(cs:List V) (l:List Nat) (K:List Nat->Prop),aSH cs l K=K (aYO cs l)
 | [],_,_=>rfl
 |v::r,l,K=>by simp only [aSH,aYO,bDD,aNW r]
def aVB(S:aD):List Nat->List Nat->(List Nat->Prop)->Prop
 | [],l,K=>K l
 |k::r,l,K=>match S.get k with
  |some (.box cs)=>aDR cs l λl=>aVB S r l K
  |_=>aVB S r l K
theorem aB8(S:aD):∀(r l:List Nat) (K:List Nat->Prop),aVB S r l K=K (nmB S r l)
 | [],_,_=>rfl
 |k::r,l,K=>by
  rw [aVB,nmB]
  cases S.get k with
  |none=>exact aB8 S r l K
  |some o=>
   cases o with
   |box cs=> dsimp only;rw [aB7,aB8 S r]
   |_=>exact aB8 S r l K
def aYE(S:aD)(args:List V)(K:List Nat->Prop):Prop:=aSH args [] λl=>aVB S l l λl=>aVB S l l K
theorem aYF(S:aD)(args:List V)(K:List Nat->Prop):aYE S args K=K (aNO S args):=by unfold aYE aNO;rw [aNW,aB8,aB8]
theorem ucR {P:Program} {f:FuncId} {args:List V} {S:aD} {m:Nat} {K:V->aD->Nat->Prop} (h:aYE S args λL=>∃ob0,rV S L L=some ob0/\∃j z,aM P f ob0 (args.map (arg2 L)) z j/\jA L=true/\Nat.ble L.length j.length=true/\Nat.ble j.length (L.length+16)=true/\K (aBL L m z) (lP S L (j.map (lN L m)) m) (m+16)):pR P f args S m K:=by rw [aYF] at h;obtain⟨B,e,C,r,h1,h2⟩:=h;exact⟨_,B,C,r,h1,nT e,h2⟩
theorem bQ4 {b n:Nat} {K:Prop} (h:b*n<=1000000)(e:n<=1000000)(k:K):rq (mkB b (n:Int)) K:=by rw [mkT h e];exact k
theorem Wy {G Q:Prop} (q:Q)(h:Hd Q->G:=by
 intro q
 (repeat((conv=>whnf);(fail_if_success refine pG.mk ?_);(fail_if_success refine aM8.mk ?_);(fail_if_success refine aFL.mk ?_);first |refine Cd.gq ?_ |refine OB.mk Sd ?_ |refine OB.mk (λ_=>Sd) ?_ |refine Exists.intro _ (And.intro Nz ?_)|refine Exists.intro _ (And.intro ixN ?_)|refine Exists.intro _ (And.intro ixL ?_)|refine Exists.intro _ (And.intro (asI (by assumption)) ?_)|refine Or.inl (Exists.intro _ (And.intro (bHS Sd) ?_))|refine Or.inl (Exists.intro _ (And.intro (by assumption) ?_))|refine Exists.intro true (And.intro rfl ?_)|refine Exists.intro false (And.intro rfl ?_)|refine Exists.intro _ (And.intro Bz ?_)|refine Exists.intro _ (And.intro Nl ?_)|refine Exists.intro _ (And.intro Np ?_)|refine Exists.intro _ (And.intro (bAI (by assumption) (by omega)) ?_)|refine Exists.intro _ (And.intro rfl ?_)|refine And.intro rfl ?_ |refine aI rfl ?_ |refine aI (bKC _) ?_ |refine bQ4 Sd Sd ?_ |refine aI Sd ?_ |refine jS (λ_=>Sd) ?_ |refine .inl ⟨.bool false,λh=>Bool.noConfusion (show false=true from h),.inr rfl,?_⟩|refine .inl ⟨_,λ_=>⟨aLB rfl,(by assumption)⟩,.inl rfl,?_⟩| (refine .inr ⟨λ_=>ucR ?_,(by intro h;cases h)⟩;(conv=>whnf);refine Exists.intro _ (And.intro rfl ?_);refine⟨_,_,(by assumption),rfl,(by rfl),(by rfl),?_⟩)|refine aPU (by assumption) ?_ |refine aPT (by assumption) ?_ |refine aX3 (by omega) ?_ |refine aX2 (by omega) ?_ |refine aPU Sd ?_ |refine aPT Sd ?_ |refine cE Sd Sd ?_ |refine aTC Sd Sd Sd Sd ?_ |refine And.intro (Nat.le_of_ble_eq_true rfl) ?_ |refine And.intro (.inl rfl) ?_ |refine And.intro (λ_=>⟨rfl,Nat.le_of_ble_eq_true rfl⟩) ?_ |refine And.intro (λ_=>Nat.le_of_ble_eq_true rfl) ?_ |refine And.intro (λh=>Bool.noConfusion h) ?_ |refine And.intro (λ_=>Sd) ?_ |refine And.intro Sd ?_ |refine .inl ⟨_,λ_=>⟨aLB rfl,aKQ (by assumption) Ag⟩,.inl rfl,?_⟩))
 (conv=>whnf)
 exact q.h):G:=h ⟨q⟩
theorem Lo5 {G:Prop} (h:G:=by
 (try refine pG.mk ?_)
 (repeat((conv=>whnf);first |refine And.intro (λ_=>⟨rfl,Nat.le_of_ble_eq_true rfl⟩) ?_ |refine And.intro (λ_=>Nat.le_of_ble_eq_true rfl) ?_ |refine And.intro (Nat.le_of_ble_eq_true rfl) ?_ |refine And.intro (λ_=>Sd) ?_))
 (conv=>whnf)
 refine⟨[some 0,some 1,some 2,some 3,some 4],?_,rfl,?_,rfl,?_⟩
 all_goals(repeat' (first |exact trivial |rfl |exact .inl rfl |exact .inr rfl |exact id |exact zbc |refine And.intro ?_ ?_ |exact Sd | ((conv=>whnf);exact Sd)))):G:=h
theorem Wo5 {G:Prop} (h:G:=by refine Wy ?_;exact Lo5):G:=h
end Go.Sk
namespace Go.Sk
open Go Go.RowKit
variable [gI]
def aPH:Nat->List V
 |0=> []
 |n+1=>.any::aPH n
theorem aHA:∀ {a b:List V} (h:a.length=b.length) (k:Nat) (l:List Nat),aEM a k l=aEM b k l
 | [],[],_,_,_=>rfl
 |_::r,_::s,h,k,l=>by rw [aEM,aEM,aHA (by simpa using h)]
theorem aFP:∀n,(aPH n).length=n
 |0=>rfl
 |n+1=>by rw [aPH,List.length_cons,aFP n]
structure Rsv(P:Program)(fn:Func)(ks:List Ct)(n:Nat) where
 rc:RC
 rvs:List RV
 h1:fn.results.toList.mapM (jJ P)=some rvs
 h2:aHK P fn.ntmps (aEM (aPH n) 0 (kY rvs)) ks (fn.body.getD .skip)=some rc
theorem cQ {P:Program} {f:FuncId} {fn:Func} {z:List Ct} {n:Nat} (R:Rsv P fn z n) {ob0 e:List Obj} {args:List V} {j:V} (C:P.funcs[f]? =some fn)(m:fn.body.isSome=true)(D:args.length=n)(E:Nat.ble args.length fn.ntmps=true)
 (B:cG 16 0 ob0.length λn0=>Cd P n0 R.rc ⟨dO 0 args,aH 0 ob0,n0⟩ (pG P n0 R.rvs j e)):aM P f ob0 args j e:=by
 refine aG z C m R.h1 ?_ E B;rw [aHA (show args.length=(aPH n).length by rw [aFP];exact D)];exact R.h2
theorem fnZ {P:Program} {f:FuncId} {fn:Func} {ks:List Ct} {n:Nat} (R:Rsv P fn ks n) {ob1:List Obj} {args:List V} {res:V} (hf:P.funcs[f]? =some fn)
 (hK:cG 16 0 0 λn0=>Cd P n0 R.rc ⟨dO 0 args,aH 0 [],n0⟩ (pG P n0 R.rvs res ob1)) (hb0:fn.body.isSome=true:=by exact rfl) (hl:args.length=n:=by exact rfl) (hn:Nat.ble args.length fn.ntmps=true:=by exact rfl):aM P f [] args res ob1:=
 cQ R hf hb0 hl hn hK
end Go.Sk
namespace Go.Sk
open Go Go.RowKit
variable [gI]
theorem Lo2 {G:Prop} (h:G:=by
 (try refine pG.mk ?_)
 (repeat((conv=>whnf);first |refine And.intro (λ_=>⟨rfl,Nat.le_of_ble_eq_true rfl⟩) ?_ |refine And.intro (λ_=>Nat.le_of_ble_eq_true rfl) ?_ |refine And.intro (Nat.le_of_ble_eq_true rfl) ?_ |refine And.intro (λ_=>Sd) ?_))
 (conv=>whnf)
 refine⟨[some 0,some 1],?_,rfl,?_,rfl,?_⟩
 all_goals(repeat' (first |exact trivial |rfl |exact .inl rfl |exact .inr rfl |exact id |exact zbc |refine And.intro ?_ ?_ |exact Sd | ((conv=>whnf);exact Sd)))):G:=h
theorem Wo2 {G:Prop} (h:G:=by refine Wy ?_;exact Lo2):G:=h
theorem pV {G:Prop} (h:G:=by refine Wy ?_;exact Lz):G:=h
end Go.Sk
namespace Go.Sk
open Go Go.RowKit
variable [gI]
structure bLW(P:Program)(fn:Func)(ks:List Ct)(n:Nat) where
 ca:Code
 o:Oper
 g:FuncId
 cb:Code
 rca:RC
 rcb:RC
 rvs:List RV
 h0:aMW P (fn.body.getD .skip)=some (ca,o,g,cb)
 h1:fn.results.toList.mapM (jJ P)=some rvs
 h2:aON P fn.ntmps (aEM (aPH n) 0 (kY rvs)) ks ca cb=some (rca,rcb)
theorem aEZ {P:Program} {f:FuncId} {fn:Func} {z:List Ct} {n:Nat} (R:bLW P fn z n) {ob0 e:List Obj} {args:List V} {j:V} (F:Quiet P R.g)(C:P.funcs[f]? =some fn)(m:fn.body.isSome=true)(D:args.length=n)(E:Nat.ble args.length fn.ntmps=true)
 (B:cG 16 0 ob0.length λn0=>Cd P n0 R.rca ⟨dO 0 args,aH 0 ob0,n0⟩ (bHK P n0 R.rcb (pG P n0 R.rvs j e))):aM P f ob0 args j e:=by
 refine bIE z C m R.h0 F R.h1 ?_ E (by simpa only [aK6] using B);rw [aHA (show args.length=(aPH n).length by rw [aFP];exact D)];exact R.h2
end Go.Sk
