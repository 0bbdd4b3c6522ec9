/- Caches. -/
import Derived.Test.YtmhapcbjjpadnaaGreatK6o
import Derived.Test.YtmhapcbjjpadnaaGreatK7o
set_option linter.all false
namespace Go.Sk
open Go Go.RowKit
variable [gD]
def aCT:V->Bool
 | .sl _ _ _=>false
 | .slk _ _ _ _=>false
 | .ptr _ _ _=>false
 |_=>true
def aTY:V->Bool
 | .agg cs=>cs.all aCT
 | .fn _ cs=>cs.all aCT
 |v=>aCT v
theorem aMY {S:aD} {v:V} (h:aCT v=true):jO S v:=by
 cases v <;> first |exact trivial | (simp [aCT] at h)
theorem aRJ {S:aD} {v:V} (h:aTY v=true):oK S v:=by
 cases v with
 |agg j=>intro c e;exact aMY (List.all_eq_true.1 h c e)
 |fn f j=>intro c e;exact aMY (List.all_eq_true.1 h c e)
 |sl k o l=>simp [aTY,aCT] at h
 |slk k o l c=>simp [aTY,aCT] at h
 |ptr k i c=>simp [aTY,aCT] at h
 |_=>exact trivial
theorem aJY {S:aD} {l:List V} (h:l.all aTY=true):∀v∈l,oK S v:=λv e=>aRJ (List.all_eq_true.1 h v e)
theorem bS {n0:Nat} {st e:St} (ids:List (Option Nat))(f:e.so=aF 0 (e.so.map Prod.snd))(h2:e.nx=(e.so.map Prod.snd).length)(j:oQ st.so ids ids (e.so.map Prod.snd))(h4:rD ids=true)
 (h5:nY 0 n0 ids) (m:Nat.ble n0 (e.so.map Prod.snd).length=true) (z:aB0 st.sl st.so ids e.sl):View n0 st e:=⟨ids,_,f,h2,j,h4,h5,m,z⟩
theorem aO {n:Int} (h: -9223372036854775808<=n:=by omega)(h':n<9223372036854775808:=by omega):IntKind.i64.wrap n=n:=by rw [IntKind.wrap_i64];omega
structure Hd(Q:Prop):Prop where
 h:Q
theorem Wk {G Q:Prop} (q:Q)(h:Hd Q->G:=by
 intro q
 (repeat((conv=>whnf);first |refine Cd.go ?_ |refine⟨rfl,?_⟩|refine aG ⟨.inl rfl,rfl⟩ ?_ |refine aG rfl ?_ |refine⟨Nat.le_of_ble_eq_true rfl,?_⟩|refine⟨.inl rfl,?_⟩|refine⟨λ_=>⟨rfl,Nat.le_of_ble_eq_true rfl⟩,?_⟩|refine⟨λ_=>Nat.le_of_ble_eq_true rfl,?_⟩|refine⟨λh=>Bool.noConfusion h,?_⟩))
 (conv=>whnf)
 exact q.h):G:=h ⟨q⟩
theorem cS {C1 G Q:Prop} (c1:C1)(q:Q)(h:C1->Hd Q->G:=by
 intro c1 q
 (repeat((conv=>whnf);first |refine Cd.go ?_ |refine⟨rfl,?_⟩|refine aG ⟨.inl rfl,rfl⟩ ?_ |refine aG rfl ?_ |refine⟨Nat.le_of_ble_eq_true rfl,?_⟩|refine⟨.inl rfl,?_⟩|refine⟨λ_=>⟨rfl,Nat.le_of_ble_eq_true rfl⟩,?_⟩|refine⟨λ_=>Nat.le_of_ble_eq_true rfl,?_⟩|refine⟨λh=>Bool.noConfusion h,?_⟩|refine .inl ⟨_,λ_=>⟨aJY rfl,(by exact c1)⟩,.inl rfl,?_⟩))
 (conv=>whnf)
 exact q.h):G:=h c1 ⟨q⟩
theorem Wk2 {C1 C2 G Q:Prop} (c1:C1)(c2:C2)(q:Q)(h:C1->C2->Hd Q->G:=by
 intro c1 c2 q
 (repeat((conv=>whnf);first |refine Cd.go ?_ |refine⟨rfl,?_⟩|refine aG ⟨.inl rfl,rfl⟩ ?_ |refine aG rfl ?_ |refine⟨Nat.le_of_ble_eq_true rfl,?_⟩|refine⟨.inl rfl,?_⟩|refine⟨λ_=>⟨rfl,Nat.le_of_ble_eq_true rfl⟩,?_⟩|refine⟨λ_=>Nat.le_of_ble_eq_true rfl,?_⟩|refine⟨λh=>Bool.noConfusion h,?_⟩|refine .inl ⟨_,λ_=>⟨aJY rfl,(by first |exact c1 |exact c2)⟩,.inl rfl,?_⟩))
 (conv=>whnf)
 exact q.h):G:=h c1 c2 ⟨q⟩
theorem Wk3 {C1 C2 C3 G Q:Prop} (c1:C1)(c2:C2)(c3:C3)(q:Q)(h:C1->C2->C3->Hd Q->G:=by
 intro c1 c2 c3 q
 (repeat((conv=>whnf);first |refine Cd.go ?_ |refine⟨rfl,?_⟩|refine aG ⟨.inl rfl,rfl⟩ ?_ |refine aG rfl ?_ |refine⟨Nat.le_of_ble_eq_true rfl,?_⟩|refine⟨.inl rfl,?_⟩|refine⟨λ_=>⟨rfl,Nat.le_of_ble_eq_true rfl⟩,?_⟩|refine⟨λ_=>Nat.le_of_ble_eq_true rfl,?_⟩|refine⟨λh=>Bool.noConfusion h,?_⟩|refine .inl ⟨_,λ_=>⟨aJY rfl,(by first |exact c1 |exact c2 |exact c3)⟩,.inl rfl,?_⟩))
 (conv=>whnf)
 exact q.h):G:=h c1 c2 c3 ⟨q⟩
theorem Lf {G:Prop} (h:G:=by
 refine⟨[],trivial,rfl,trivial,rfl,?_⟩
 repeat' (first |exact trivial |rfl |exact .inl rfl |exact .inr rfl |exact id |exact zbc |apply And.intro)):G:=h
theorem Cl {G:Prop} (h:G:=by repeat' (first |exact trivial |rfl |exact .inl rfl |exact .inr rfl |exact id |exact zbc |apply And.intro)):G:=h
structure VwP(n0:Nat)(st st':St)(ids:List (Option Nat)):Prop where
 h1:st'.so=aF 0 (st'.so.map Prod.snd)
 h2:st'.nx=(st'.so.map Prod.snd).length
 h3:oQ st.so ids ids (st'.so.map Prod.snd)
 h4:rD ids=true
 h5:nY 0 n0 ids
 h6:Nat.ble n0 (st'.so.map Prod.snd).length=true
 h7:aB0 st.sl st.so ids st'.sl
theorem Vw {n0:Nat} {st st':St} (ids:List (Option Nat))(h:VwP n0 st st' ids:=by
 refine⟨rfl,rfl,?_,rfl,?_,rfl,?_⟩
 repeat' (first |exact trivial |rfl |exact .inl rfl |exact .inr rfl |exact id |exact zbc |apply And.intro)):View n0 st st':=bS ids h.h1 h.h2 h.h3 h.h4 h.h5 h.h6 h.h7
theorem Vq {n0:Nat} {st st':St} (ids:List (Option Nat))(h:VwP n0 st st' ids:=by
 refine⟨rfl,rfl,?_,?_,?_,?_,?_⟩
 rotate_left 4
 ·repeat' (first |exact trivial |rfl |exact .inl rfl |exact .inr rfl |exact id |exact zbc |apply And.intro)
 ·repeat' (first |exact trivial |rfl |exact .inl rfl |exact .inr rfl |exact id |exact zbc |apply And.intro)
 ·rfl
 ·repeat' (first |exact trivial |rfl |exact .inl rfl |exact .inr rfl |exact id |exact zbc |apply And.intro)
 ·rfl):View n0 st st':=bS ids h.h1 h.h2 h.h3 h.h4 h.h5 h.h6 h.h7
theorem cG {P:Program} {f:FuncId} {fn:Func} {rc:RC} {rvs:List RV} {ob1:List Obj} {args:List V} {res:V} (hf:P.funcs[f]? =some fn)
 (hK:cD 16 0 0 λn0=>Cd P n0 rc ⟨dN 0 args,aF 0 [],n0⟩ (gG P n0 rvs res ob1)) (hb0:fn.body.isSome=true:=by exact rfl)
 (hrv:fn.results.toList.mapM (jC P)=some rvs:=by exact rfl) (hres:aGG P fn.ntmps (aDI args 0 (kP rvs)) [] (fn.body.getD .skip)=some rc:=by exact rfl) (hn:Nat.ble args.length fn.ntmps=true:=by exact rfl):aN P f [] args res ob1:=
 eX [] hf hb0 hrv hres hn hK
abbrev bH(d s:Nat):iM:=⟨some d,none,.mv (.t s)⟩
abbrev fJ(d g k s:Nat):iM:=⟨some d,some (g,false),.faddr k (.t s)⟩
abbrev iF(d g k s:Nat):iM:=⟨some d,some (g,false),.ld false k (.t s)⟩
abbrev lZ(d a b:Nat):iM:=⟨some d,none,.pick (.t a) (.c (.bool true)) (.t b)⟩
abbrev oE(d:Nat):iM:=⟨some d,none,.mv (.c (.bool false))⟩
abbrev oG(d k s:Nat):iM:=⟨some d,none,.ld true k (.t s)⟩
abbrev pU(d s:Nat):iM:=⟨some d,none,.len (.t s)⟩
abbrev oF(d k s:Nat):iM:=⟨some d,none,.faddr k (.t s)⟩
abbrev pT(d k a b:Nat):iM:=⟨some d,none,.iaddr k (.t a) (.t b)⟩
abbrev rP(d k s:Nat):iM:=⟨some d,none,.ld false k (.t s)⟩
abbrev aFG(d:Nat)(n:Int):iM:=⟨some d,none,.mv (.c (.int .i64 n))⟩
abbrev aFI(d a b:Nat):iM:=⟨some d,none,.bin .lss (.t a) (.t b)⟩
abbrev aFF(d a:Nat)(n:Int):iM:=⟨some d,none,.bin .add (.t a) (.c (.int .i64 n))⟩
abbrev aI0(d g s:Nat):iM:=⟨some d,some (g,false),.mv (.t s)⟩
end Go.Sk
namespace Go.Sk
open Go Go.RowKit
variable [gD]
def vQ(v:V)(K:V->Prop):Prop:=
 match v with
 | .int k n=>∃m,n=m/\K (.int k m)
 | .ptr k i c=>∃j,i=j/\K (.ptr k j c)
 | .rp es cs c=>∃r,cs=r/\K (.rp es r c)
 | .sl k off len=>∃p:Nat×Nat,(off,len)=p/\K (.sl k p.1 p.2)
 | .bool b=>∃c,b=c/\K (.bool c)
 |v=>K v
theorem bO7(v:V)(K:V->Prop):vQ v K=K v:=by
 unfold vQ;split
 all_goals first
  |rfl
  |exact propext ⟨(by rintro ⟨_,rfl,h⟩;exact h),λh=>⟨_,rfl,h⟩⟩
structure OB(C K:Prop):Prop where
 h:C
 k:K
theorem bCT {C K:Prop} :OB C K=(C/\K):=propext ⟨λh=>⟨h.h,h.k⟩,λh=>⟨h.1,h.2⟩⟩
def bB3(P:Program)(ssl:aW)(sso:aD)(snx:Nat)(ch:List (Nat×Bool))(gc:Bool)(i:I)(K:V->aD->Nat->Prop):Prop:=
 match i with
 | .ld agg n x=>match bM ssl ch x with
   | .ptr k i c=>match sso.get k with
     |some (.row es xs)=>gq gc (decide (i<xs.length)) (∃r,xs.getD i []=r/\rq (decide (c+n<=es)) (K (qB agg es r c n) sso snx))
     |_=>fR P ssl sso snx ch gc (.ld agg n x) K
   |_=>fR P ssl sso snx ch gc (.ld agg n x) K
 | .st m x y=>match ch with
   | []=>match bM ssl [] x,(bM ssl [] y).cells? with
     | .ptr k i c,some cs=>match sso.get k with
       |some (.row es xs)=>rq (decide (i<xs.length)) (rq (decide (c+m<=es)) (rq (decide (cs.length=m)) (rq (cs.all cF) (∃r,xs.getD i []=r/\K .any (sso.set k (.row es (xs.set i (aS es r c cs)))) snx))))
       |_=>fR P ssl sso snx [] gc (.st m x y) K
     |_,_=>fR P ssl sso snx [] gc (.st m x y) K
   |g::r=>fR P ssl sso snx (g::r) gc (.st m x y) K
 | .scat x y=>match bM ssl ch x,bM ssl ch y with
   | .str a,.str b=>OB (gc=true->a.size+b.size<=9223372036854775807) (K (.str (a++b)) sso snx)
   |_,_=>fR P ssl sso snx ch gc (.scat x y) K
 | .s2b x=>match ch with
   | []=>match bM ssl [] x with
     | .str s=>OB (s.size<=9223372036854775807) (K (.sl snx 0 s.size) (sso.set snx (.bb s.data.toList)) (snx+1))
     |_=>fR P ssl sso snx [] gc (.s2b x) K
   |g::r=>fR P ssl sso snx (g::r) gc (.s2b x) K
 | .b2s x=>match unk (bM ssl ch x) with
   | .sl k off len=>match sso.get k with
     |some (.row 1 xs)=>(∃l,jJ ((xs.drop off).take len)=some l/\gq gc (decide (off+len<=xs.length)) (K (.str ⟨l.toArray⟩) sso snx))\/(jJ ((xs.drop off).take len)=none/\rq (!gc) (K .any sso snx))
     |_=>fR P ssl sso snx ch gc (.b2s x) K
   |_=>fR P ssl sso snx ch gc (.b2s x) K
 | .bin op x y=>fR P ssl sso snx ch gc (.bin op x y) λv S n=>vQ v λv=>K v S n
 | .conv k x=>fR P ssl sso snx ch gc (.conv k x) λv S n=>vQ v λv=>K v S n
 | .pick c a b=>fR P ssl sso snx ch gc (.pick c a b) λv S n=>vQ v λv=>K v S n
 | .un op x=>fR P ssl sso snx ch gc (.un op x) λv S n=>vQ v λv=>K v S n
 | .iaddr es x i=>fR P ssl sso snx ch gc (.iaddr es x i) λv S n=>vQ v λv=>K v S n
 | .slc es x a b=>fR P ssl sso snx ch gc (.slc es x a b) λv S n=>vQ v λv=>K v S n
 | .len x=>fR P ssl sso snx ch gc (.len x) λv S n=>vQ v λv=>K v S n
 | .app es by_ x y=>fR P ssl sso snx ch gc (.app es by_ x y) λv S n=>vQ v λv=>K v S n
 | .mx x y=>fR P ssl sso snx ch gc (.mx x y) λv S n=>vQ v λv=>K v S n
 | .mn x y=>fR P ssl sso snx ch gc (.mn x y) λv S n=>vQ v λv=>K v S n
 |i=>fR P ssl sso snx ch gc i K
theorem aQR(P:Program)(ssl:aW)(z:aD)(m:Nat)(ch:List (Nat×Bool))(C:Bool)(i:I)(K:V->aD->Nat->Prop):bB3 P ssl z m ch C i K=fR P ssl z m ch C i K:=by
 unfold bB3;split
 ·split
  ·rename_i f;split
   ·rename_i h2;simp only [fR,rdF,f,h2,aOQ];exact propext ⟨(by rintro ⟨B,_,rfl,h⟩;exact⟨B,h⟩),λh=>⟨h.1,_,rfl,h.2⟩⟩
   ·rfl
  ·rfl
 ·split
  ·split
   ·rename_i f h2;split
    ·rename_i B;simp only [fR,rX,wrF,f,h2,B,gB];exact propext ⟨(by rintro ⟨a,b,c,d,_,rfl,h⟩;exact⟨a,b,c,d,h⟩),λ⟨a,b,c,d,h⟩=>⟨a,b,c,d,_,rfl,h⟩⟩
    ·rfl
   ·rfl
  ·rfl
 ·split
  ·rename_i f h2;simp only [fR,rdF,f,h2,aOQ,bCT,Nat.ble_eq]
  ·rfl
 ·split
  ·split
   ·rename_i f;simp only [fR,rX,wrF,f,gB,bCT,Nat.ble_eq]
   ·rfl
  ·rfl
 ·split
  ·rename_i f;split
   ·rename_i xs h2;simp only [fR,rdF,f,h2];split
    ·rename_i l j
     exact propext ⟨(by rintro (⟨l',e,h⟩| ⟨e,h⟩);·rw [j] at e;cases e;exact h
                        ·rw [j] at e;cases e),λh=>.inl ⟨l,j,h⟩⟩
    ·rename_i j
     exact propext ⟨(by rintro (⟨l',e,h⟩| ⟨e,h⟩);·rw [j] at e;cases e
                        ·exact h),λh=>.inr ⟨j,h⟩⟩
   ·rfl
  ·rfl
 all_goals first |rfl | (simp only [bO7])
def aP3(P:Program):List iM->St->(St->Prop)->Prop
 | [],st,K=>K st
 | ⟨d,g,i⟩::r,⟨ssl,sso,snx⟩,K=>qW ssl g λch gc=>bB3 P ssl sso snx ch gc i λv S n=>mT v λv=>dD S λS=>cD 64 0 n λn=>aAO ssl d ⟨ch,gc,v⟩ λsl=>aP3 P r ⟨sl,S,n⟩ K
theorem aE0(P:Program):∀(l:List iM) (st:St) (K:St->Prop),aP3 P l st K=aDH P l st K
 | [],_,_=>rfl
 | ⟨d,g,i⟩::r,⟨ssl,f,e⟩,K=>by simp only [aP3,aDH,aQR,aE0 P r]
def aVI(P:Program):St->Nat->Option Nat->Option (Nat×Bool)->I->(Rec->St->Prop)->Prop
 | ⟨ssl,sso,snx⟩,m,d,g,i,K=>
 cZ (gsl g++aNI i) λrds=>qV (look ssl rds) λSL=>qW SL g λch gc=>cZ (sU i SL sso) λT=>dD (iG sso T) λSO=>cZ (gsl g++chs SL) λG=>
  bB3 P SL SO m ch gc i λv S1 n1=>mT v λv=>dD S1 λS1=>cZ (wrI SL T m n1 i) λW=>cZ (W++aFU m S1) λids=>
   (aBM T m S1&&(qA d G&&(aEL (m+16) ids&&(aHD W T&&(aHD (chT ch) G&&(aEP m T&&Nat.ble n1 (m+16)))))))=true/\aCZ SO S1 W
   (aAO ssl d ⟨ch,gc,v⟩ λsl=>dD (aAK sso S1 ids) λso=>K ⟨m,rds++G,chT ch,d,⟨ch,gc,v⟩,T,ids,S1⟩ ⟨sl,so,snx⟩) T
theorem aVJ(P:Program)(st:St)(m:Nat)(d:Option Nat)(g:Option (Nat×Bool))(i:I)(K:Rec->St->Prop):aVI P st m d g i K=aEZ P st m d g i K:=by obtain⟨ssl,f,e⟩:=st;simp only [aVI,aEZ,aQR,aJK]
def aLM(P:Program):List iM->List Nat->St->(List Rec->St->Prop)->Prop
 | [],[],st,K=>K [] st
 | ⟨d,g,i⟩::r,m::ms,st,K=>aVI P st m d g i λrc st'=>aLM P r ms st' λrs st''=>K (rc::rs) st''
 |_,_,_,_=>False
theorem aLN(P:Program):∀(l:List iM) (e:List Nat) (st:St) (K:List Rec->St->Prop),aLM P l e st K=mP P l e st K
 | [],[],_,_=>rfl
 | [],_::_,_,_=>rfl
 |_::_,[],_,_=>rfl
 | ⟨d,g,i⟩::r,m::e,st,K=>by simp only [aLM,mP,aVJ,aLN P r]
structure aKX(P:Program)(n0:Nat)(c:RC)(st:St)(K:Ex->St->Prop):Prop where
 h:∃(α:Type) (I:α->Prop) (F:α->St) (m:α->Nat),(∃a,I a/\View n0 st (F a))/\∀a,I a->Cd P n0 c (F a) (aPX n0 I F m a K)
structure aEJ {α:Type} (n0:Nat)(I:α->Prop)(F:α->St)(m:α->Nat)(a:α)(st:St):Prop where
 h:∃a',I a'/\View n0 st (F a')/\m a'<m a
def aUW {α:Type} (n0:Nat)(I:α->Prop)(F:α->St)(m:α->Nat)(a:α)(K:Ex->St->Prop)(e:Ex)(st':St):Prop:=
 match e with
 | .normal=>aEJ n0 I F m a st'
 | .exit id=>K (.exit id) st'
 | .ret=>K .ret st'
theorem aSM {α:Type} (n0:Nat)(I:α->Prop)(F:α->St)(m:α->Nat)(a:α)(K:Ex->St->Prop):aUW n0 I F m a K=aPX n0 I F m a K:=by
 funext e f
 cases e with
 |normal=>exact propext ⟨λh=>h.h,λh=>⟨h⟩⟩
 |_=>rfl
structure rU(P:Program)(n0:Nat)(rvs:List RV)(res:V)(ob1:List Obj)(e:Ex)(st:St):Prop where
 h:gG P n0 rvs res ob1 e st
theorem aIX(P:Program)(n0:Nat)(rvs:List RV)(j:V)(f:List Obj):rU P n0 rvs j f=gG P n0 rvs j f:=by
 funext e st
 exact propext ⟨λh=>h.h,λh=>⟨h⟩⟩
theorem aQ(C:List Ct) {P:Program} {f:FuncId} {fn:Func} {rc:RC} {rvs:List RV} {ob0 j:List Obj} {args:List V} {m:V} (E:P.funcs[f]? =some fn)(z:fn.body.isSome=true)
 (B:fn.results.toList.mapM (jC P)=some rvs) (e:aGG P fn.ntmps (aDI args 0 (kP rvs)) C (fn.body.getD .skip)=some rc) (F:Nat.ble args.length fn.ntmps=true)
 (D:cD 16 0 ob0.length λn0=>Cd P n0 rc ⟨dN 0 args,aF 0 ob0,n0⟩ (rU P n0 rvs m j)):aN P f ob0 args m j:=
 eX C E z B e F (by simpa only [aIX] using D)
def CdQ(P:Program)(n0:Nat)(rc:RC)(st:St)(K:Ex->St->Prop):Prop:=
 match rc with
 | .reg l kill=>aP3 P l st λ| ⟨sl0,so0,nx0⟩=>eW kill sl0 λsl=>K .normal ⟨sl,so0,nx0⟩
 | .dreg b0 n l kill an ms=>match Nat.ble st.nx b0 with
   |true=>aLM P l ms ⟨st.sl,st.so,n⟩ λ|recs,⟨sl0,so0,nx0⟩=>mO recs an 0=true/\eW kill (look sl0 (pW sl0)) λsl=>K .normal ⟨sl,so0,nx0⟩
   |false=>aLM P l (shM st.nx ms) ⟨st.sl,st.so,n+st.nx⟩ λ|recs,⟨sl0,so0,nx0⟩=>mO recs an 0=true/\eW kill (look sl0 (pW sl0)) λsl=>K .normal ⟨sl,so0,nx0⟩
 | .loop c=>aKX P n0 c st K
 |rc=>CdB P n0 rc st K
theorem Cd.gq {P:Program} {n0:Nat} {rc:RC} {st:St} {K:Ex->St->Prop} (h:CdQ P n0 rc st K):Cd P n0 rc st K:=by
 cases rc with
 |reg l k=>exact Cd.reg (by rw [<-aE0];exact h)
 |dreg j n l e f m=> unfold CdQ at h;simp only [aLN] at h;exact Cd.go h
 |loop c=>exact Cd.loop h.h
 |_=>exact Cd.go h
omit [gD] in
theorem wI {n:Int} (h: -9223372036854775808<=n)(e:n<9223372036854775808):IntKind.i64.wrap n=n:=by rw [IntKind.wrap_i64];omega
omit [gD] in
theorem aBW(x:Nat)(h:x<9223372036854775808):(BitVec.ofInt 64 (x:Int)).toNat=x:=by rw [BitVec.toNat_ofInt];omega
omit [gD] in
theorem bK5 {x y:Nat} (e:x<9223372036854775808)(f:y<9223372036854775808):gW .and .i64 (x:Int) (y:Int)=((x &&& y:Nat):Int):=by have h:=Nat.and_le_left (n:=x) (m:=y);show IntKind.i64.wrap (((BitVec.ofInt 64 (x:Int)&&& BitVec.ofInt 64 (y:Int)).toNat:Nat):Int)=_;rw [BitVec.toNat_and,aBW x e,aBW y f];exact wI (by omega) (by omega)
omit [gD] in
theorem bOr {x y:Nat} (e:x<9223372036854775808)(f:y<9223372036854775808):gW .or .i64 (x:Int) (y:Int)=((x ||| y:Nat):Int):=by
 have h:=Nat.or_lt_two_pow (n:=63) e f;show IntKind.i64.wrap (((BitVec.ofInt 64 (x:Int)||| BitVec.ofInt 64 (y:Int)).toNat:Nat):Int)=_
 rw [BitVec.toNat_or,aBW x e,aBW y f];exact wI (by omega) (by omega)
omit [gD] in
theorem bP0 {x y:Nat} (e:x<9223372036854775808)(f:y<9223372036854775808):gW .xor .i64 (x:Int) (y:Int)=((x ^^^ y:Nat):Int):=by have h:=Nat.xor_lt_two_pow (n:=63) e f;show IntKind.i64.wrap (((BitVec.ofInt 64 (x:Int)^^^ BitVec.ofInt 64 (y:Int)).toNat:Nat):Int)=_;rw [BitVec.toNat_xor,aBW x e,aBW y f];exact wI (by omega) (by omega)
omit [gD] in
theorem bK6 {x b:Nat} (e:x<9223372036854775808)(f:(OfNat.ofNat b:Nat)<9223372036854775808):gW .and .i64 (x:Int) (OfNat.ofNat b:Int)=((x &&& (OfNat.ofNat b:Nat):Nat):Int):=bK5 e f
omit [gD] in
theorem bOZ {x b:Nat} (e:x<9223372036854775808)(f:(OfNat.ofNat b:Nat)<9223372036854775808):gW .or .i64 (x:Int) (OfNat.ofNat b:Int)=((x ||| (OfNat.ofNat b:Nat):Nat):Int):=bOr e f
omit [gD] in
theorem bQ7 {a k:Nat} (f:k<63)(h:a*2^k<9223372036854775808):IntKind.i64.wrap ((a:Int)*2^min (k:Int).toNat IntKind.i64.bits)=((a*2^k:Nat):Int):=by
 have e:min (k:Int).toNat IntKind.i64.bits=k:=by show min k 64=k;omega
 rw [e,show(a:Int)*2^k=((a*2^k:Nat):Int) by simp];exact wI (by omega) (by omega)
omit [gD] in
theorem bQ6 {k:Nat} (e:k<62):IntKind.i64.wrap (1*2^min (k:Int).toNat IntKind.i64.bits)=((2^k:Nat):Int):=by
 have h:2^k<2^62:=Nat.pow_lt_pow_right (by omega) e;have :=bQ7 (a:=1) (k:=k) (by omega) (by omega)
 rwa [Nat.one_mul] at this
omit [gD] in
theorem bQ8 {a k:Nat} (j:k<=64):(a:Int).fdiv (2^min (k:Int).toNat IntKind.i64.bits)=((a/2^k:Nat):Int):=by
 have e:min (k:Int).toNat IntKind.i64.bits=k:=by show min k 64=k;omega
 have f:(2:Int)^k=((2^k:Nat):Int):=by simp
 rw [e,f,Int.fdiv_eq_ediv_of_nonneg _ (Int.natCast_nonneg _)];exact(Int.natCast_ediv _ _).symm
omit [gD] in
theorem divN {a b:Nat} (e:a<9223372036854775808):IntKind.i64.wrap ((a:Int).tdiv (b:Int))=((a/b:Nat):Int):=by have h:=Nat.div_le_self a b;rw [show(a:Int).tdiv (b:Int)=((a/b:Nat):Int) by rw [Int.tdiv_eq_ediv_of_nonneg (by omega)];exact(Int.natCast_ediv _ _).symm];generalize a/b=c at *;exact wI (by omega) (by omega)
omit [gD] in
theorem bP3 {a b:Nat} (e:a<9223372036854775808):IntKind.i64.wrap ((a:Int).tdiv (OfNat.ofNat b:Int))=((a/(OfNat.ofNat b:Nat):Nat):Int):=divN e
omit [gD] in
theorem bL0 {a b:Nat} :(a:Int).tmod (b:Int)=((a%b:Nat):Int):=by rw [Int.tmod_eq_emod_of_nonneg (by omega)];exact(Int.natCast_emod _ _).symm
omit [gD] in
theorem bPF {a b:Nat} :(a:Int).tmod (OfNat.ofNat b:Int)=((a%(OfNat.ofNat b:Nat):Nat):Int):=bL0
omit [gD] in
theorem wA {i j:Nat} (h:i+j<9223372036854775807):IntKind.i64.wrap ((i:Int)+(j:Int))=((i+j:Nat):Int):=by rw [wI (by omega) (by omega)];omega
omit [gD] in
theorem wAL {i b:Nat} (h:i+(OfNat.ofNat b:Nat)<9223372036854775807):IntKind.i64.wrap ((i:Int)+(OfNat.ofNat b:Int))=((i+(OfNat.ofNat b:Nat):Nat):Int):=wA h
omit [gD] in
theorem wLA {i b:Nat} (h:(OfNat.ofNat b:Nat)+i<9223372036854775807):IntKind.i64.wrap ((OfNat.ofNat b:Int)+(i:Int))=(((OfNat.ofNat b:Nat)+i:Nat):Int):=wA h
omit [gD] in
theorem wM {i j:Nat} (h:i*j<9223372036854775807):IntKind.i64.wrap ((i:Int)*(j:Int))=((i*j:Nat):Int):=by rw [<-Int.natCast_mul];exact wI (by omega) (by omega)
omit [gD] in
theorem wML {i b:Nat} (h:i*(OfNat.ofNat b:Nat)<9223372036854775807):IntKind.i64.wrap ((i:Int)*(OfNat.ofNat b:Int))=((i*(OfNat.ofNat b:Nat):Nat):Int):=wM h
omit [gD] in
theorem wD {i j:Nat} (h:j<=i)(h2:i<9223372036854775807):IntKind.i64.wrap ((i:Int)- (j:Int))=((i-j:Nat):Int):=by rw [wI (by omega) (by omega)];omega
omit [gD] in
theorem wP {i:Nat} (h:i<9223372036854775807):IntKind.i64.wrap (((i+1:Nat):Int)-1)=(i:Int):=by rw [wI (by omega) (by omega)];omega
omit [gD] in
theorem wDL {i b:Nat} (h:(OfNat.ofNat b:Nat)<=i)(h2:i<9223372036854775807):IntKind.i64.wrap ((i:Int)- (OfNat.ofNat b:Int))=((i- (OfNat.ofNat b:Nat):Nat):Int):=wD h h2
omit [gD] in
theorem wLD {i b:Nat} (h:i<=(OfNat.ofNat b:Nat))(h2:(OfNat.ofNat b:Nat)<9223372036854775807):IntKind.i64.wrap ((OfNat.ofNat b:Int)- (i:Int))=(((OfNat.ofNat b:Nat)-i:Nat):Int):=wD h h2
omit [gD] in
theorem ixN {n:Nat} :0+(n:Int).toNat=n:=by rw [Nat.zero_add];rfl
omit [gD] in
theorem ixL {n:Nat} :0+(OfNat.ofNat n:Int).toNat=(OfNat.ofNat n:Nat):=ixN
omit [gD] in
theorem mxN {a b:Nat} :max (a:Int) (b:Int)=((max a b:Nat):Int):=by omega
omit [gD] in
theorem mxL {a b:Nat} :max (a:Int) (OfNat.ofNat b:Int)=((max a (OfNat.ofNat b:Nat):Nat):Int):=mxN
omit [gD] in
theorem mnN {a b:Nat} :min (a:Int) (b:Int)=((min a b:Nat):Int):=by omega
omit [gD] in
theorem mnL {a b:Nat} :min (a:Int) (OfNat.ofNat b:Int)=((min a (OfNat.ofNat b:Nat):Nat):Int):=mnN
omit [gD] in
theorem Nz {a b:Int} (h:a=b:=by first |with_reducible exact wP (by omega)|with_reducible exact wAL (by omega)|with_reducible exact wA (by omega)|with_reducible exact wDL (by omega) (by omega)|with_reducible exact wD (by omega) (by omega)|with_reducible exact wML (by omega)|with_reducible exact bP3 (by omega)|with_reducible exact bPF |with_reducible exact bK5 (by omega) (by omega)|with_reducible exact bK6 (by omega) (by omega)|with_reducible exact bOr (by omega) (by omega)|with_reducible exact bOZ (by omega) (by omega)|with_reducible exact bQ6 (by omega)|with_reducible exact wM (by omega)|with_reducible exact divN (by omega)|with_reducible exact bL0 |with_reducible exact wLA (by omega)|with_reducible exact wLD (by omega) (by omega)|with_reducible exact mxN |with_reducible exact mxL |with_reducible exact mnN |with_reducible exact mnL |with_reducible exact bQ8 (by omega)|with_reducible exact bP0 (by omega) (by omega)|with_reducible exact wI (by omega) (by omega)):a=b:=h
theorem eqT {a b:Int} (h:a=b):(a==b)=true:=zbe.2 h
theorem eqF {a b:Int} (h:a≠b):(a==b)=false:=zbn.2 h
theorem neT {a b:Int} (h:a≠b):(a != b)=true:=bne_iff_ne.2 h
theorem neF {a b:Int} (h:a=b):(a != b)=false:=bne_eq_false_iff_eq.2 h
theorem deT {p:Prop} [Decidable p](h:p):decide p=true:=zdt h
theorem deF {p:Prop} [Decidable p](h:¬p):decide p=false:=zdf h
theorem Bz {a b:Bool} (h:a=b:=by first |with_reducible exact deT (by omega)|with_reducible exact deF (by omega)|with_reducible exact eqT (by omega)|with_reducible exact eqF (by omega)|with_reducible exact neT (by omega)|with_reducible exact neF (by omega)):a=b:=h
theorem bDK:∀n:Nat,jJ (List.replicate n [V.int .u8 0])=some (List.replicate n 0)
 |0=>rfl
 |n+1=>by rw [List.replicate_succ,jJ,bDK n];rfl
theorem bFS {n m:Nat} (h:n<=m):jJ (List.take n (List.drop 0 (List.replicate m [V.int .u8 0])))=some (List.replicate n 0):=by rw [List.drop_zero,List.take_replicate,Nat.min_eq_left h,bDK]
theorem asI {a b:Int} (h:a=b):a=b:=h
theorem Nl {a b:Int} (h:a=b:=by simp;rfl):a=b:=h
theorem Np {o l l':Nat} (h:l=l':=by simp;rfl):(o,l)=(o,l'):=by rw [h]
theorem bO5 {α:Type} {xs:List α} {n:Nat} (h:xs.length<=n):List.take n (List.drop 0 xs)=xs:=by rw [List.drop_zero,List.take_of_length_le h]
theorem Sd {p:Prop} (h:p:=by(fail_if_success exact True.intro);first |omega |exact bO5 (by first |omega | (simp;done)| (simp;omega))| (simp(disch:=omega) [wI,List.take_of_length_le];done)| (simp(disch:=omega) only [wI];omega)| (simp(disch:=omega) [wI,List.take_of_length_le];omega)):p:=h
theorem bID(x:UInt8):0<=(x.toNat:Int)/\(x.toNat:Int)<256:=by have :=x.toNat_lt;omega
theorem aOJ {x:Bool} {A B:Prop} (h:x=true)(a:A):cq x A B:=by rw [aQ9];exact⟨λ_=>a,λe=>by rw [h] at e;cases e⟩
theorem aOI {x:Bool} {A B:Prop} (h:x=false)(b:B):cq x A B:=by rw [aQ9];exact⟨(λe=>by rw [h] at e;cases e),λ_=>b⟩
theorem aVH {p:Prop} [Decidable p] {A B:Prop} (h:p)(a:A):cq (decide p) A B:=aOJ (zdt h) a
theorem aVG {p:Prop} [Decidable p] {A B:Prop} (h:¬p)(b:B):cq (decide p) A B:=aOI (zdf h) b
theorem aJD {P:Program} {f:FuncId} {o j:List Obj} {a b:List V} {r:V} (h:aN P f o a r j)(e:b=a):aN P f o b r j:=e▸h
theorem aYM {xs:List (List V)} {i n:Nat} {r:List V} (h:xs.getD n []=r)(e:i=n):xs.getD i []=r:=by rw [e,h]
theorem aOP {l:List Nat} {K:List Nat->Prop} (h:cZ l K):K l:=by rwa [fP] at h
theorem ucQ {P:Program} {f:FuncId} {args:List V} {S:aD} {m:Nat} {K:V->aD->Nat->Prop} (h:cZ (aMB S args) λL=>∃ob0,rB S L L=some ob0/\∃j z,aN P f ob0 (args.map (arg2 L)) z j/\iU L=true/\Nat.ble L.length j.length=true/\Nat.ble j.length (L.length+16)=true/\K (aAQ L m z) (lC S L (j.map (kZ L m)) m) (m+16)):pH P f args S m K:=by obtain⟨o0,e,C,r,B,h2⟩:=aOP h;exact⟨_,o0,C,r,B,mZ e,h2⟩
theorem bA7 {a b:V} {l m:List V} (h:a=b)(k:l=m):a::l=b::m:=by rw [h,k]
theorem bFR {l m:List V} (h:l=m):V.agg l=V.agg m:=by rw [h]
theorem int_eq {k:IntKind} {n m:Int} (h:n=m):V.int k n=V.int k m:=by rw [h]
theorem bA2 {n m:Bool} (h:n=m):V.bool n=V.bool m:=by rw [h]
theorem bGV {k:Nat} {b:Bool} {n m:List (List V)} (h:n=m):V.lst k b n=V.lst k b m:=by rw [h]
theorem bO4 {k a b c d:Nat} (h:a=c)(e:b=d):V.sl k a b=V.sl k c d:=by rw [h,e]
theorem Ag {a b:List V} (h:a=b:=by
 repeat' (first |refine bA7 ?_ ?_ |rfl |refine bFR ?_ |refine int_eq ?_ |refine bA2 ?_ |refine bGV ?_ |refine bO4 ?_ ?_ |exact Sd)):a=b:=h
theorem Cz {G:Prop} (h:G:=by repeat' (first |exact trivial |rfl |exact .inl rfl |exact .inr rfl |exact id |exact zbc |refine And.intro ?_ ?_ |exact Sd | ((conv=>whnf);exact Sd))):G:=h
theorem Lz {G:Prop} (h:G:=by
 (try refine rU.mk ?_)
 (repeat((conv=>whnf);first |refine And.intro (λ_=>⟨rfl,Nat.le_of_ble_eq_true rfl⟩) ?_ |refine And.intro (λ_=>Nat.le_of_ble_eq_true rfl) ?_ |refine And.intro (Nat.le_of_ble_eq_true rfl) ?_ |refine And.intro (λ_=>Sd) ?_))
 (conv=>whnf)
 refine⟨[],trivial,rfl,trivial,rfl,?_⟩
 repeat' (first |exact trivial |rfl |exact .inl rfl |exact .inr rfl |exact id |exact zbc |refine And.intro ?_ ?_ |exact Sd | ((conv=>whnf);exact Sd))):G:=h
theorem Vz {n0:Nat} {st st':St} (ids:List (Option Nat))(h:VwP n0 st st' ids:=by
 refine⟨rfl,rfl,?_,rfl,?_,rfl,?_⟩
 repeat' (first |exact trivial |rfl |exact .inl rfl |exact .inr rfl |exact id |exact zbc |refine And.intro ?_ ?_ |exact Sd | ((conv=>whnf);exact Sd))):View n0 st st':=bS ids h.h1 h.h2 h.h3 h.h4 h.h5 h.h6 h.h7
theorem Wx {G Q:Prop} (q:Q)(h:Hd Q->G:=by
 intro q
 (repeat((conv=>whnf);(fail_if_success refine rU.mk ?_);(fail_if_success refine aKX.mk ?_);(fail_if_success refine aEJ.mk ?_);first |refine Cd.gq ?_ |refine OB.mk Sd ?_ |refine OB.mk (λ_=>Sd) ?_ |refine Exists.intro _ (And.intro Nz ?_)|refine Exists.intro _ (And.intro ixN ?_)|refine Exists.intro _ (And.intro ixL ?_)|refine Exists.intro _ (And.intro (asI (by assumption)) ?_)|refine Or.inl (Exists.intro _ (And.intro (bFS Sd) ?_))|refine Or.inl (Exists.intro _ (And.intro (by assumption) ?_))|refine Exists.intro true (And.intro rfl ?_)|refine Exists.intro false (And.intro rfl ?_)|refine Exists.intro _ (And.intro Bz ?_)|refine Exists.intro _ (And.intro Nl ?_)|refine Exists.intro _ (And.intro Np ?_)|refine Exists.intro _ (And.intro (aYM (by assumption) (by omega)) ?_)|refine Exists.intro _ (And.intro rfl ?_)|refine And.intro rfl ?_ |refine aG rfl ?_ |refine aG (bID _) ?_ |refine aG Sd ?_ |refine iE (λ_=>Sd) ?_ |refine .inl ⟨.bool false,λh=>Bool.noConfusion (show false=true from h),.inr rfl,?_⟩|refine .inl ⟨_,λ_=>⟨aJY rfl,(by assumption)⟩,.inl rfl,?_⟩| (refine .inr ⟨λ_=>ucQ ?_,(by intro h;cases h)⟩;(conv=>whnf);refine Exists.intro _ (And.intro rfl ?_);refine⟨_,_,(by assumption),rfl,(by rfl),(by rfl),?_⟩)|refine aOJ (by assumption) ?_ |refine aOI (by assumption) ?_ |refine aVH (by omega) ?_ |refine aVG (by omega) ?_ |refine aOJ Sd ?_ |refine aOI Sd ?_ |refine cC Sd Sd ?_ |refine aRW Sd Sd Sd Sd ?_ |refine And.intro (Nat.le_of_ble_eq_true rfl) ?_ |refine And.intro (.inl rfl) ?_ |refine And.intro (λ_=>⟨rfl,Nat.le_of_ble_eq_true rfl⟩) ?_ |refine And.intro (λ_=>Nat.le_of_ble_eq_true rfl) ?_ |refine And.intro (λh=>Bool.noConfusion h) ?_ |refine And.intro (λ_=>Sd) ?_ |refine And.intro Sd ?_ |refine .inl ⟨_,λ_=>⟨aJY rfl,aJD (by assumption) Ag⟩,.inl rfl,?_⟩))
 (conv=>whnf)
 exact q.h):G:=h ⟨q⟩
theorem Wz {G:Prop} (h:G:=by refine Wx ?_;exact Lz):G:=h
theorem Wx2 {C1 C2 G Q:Prop} (c1:C1)(c2:C2)(q:Q)(h:C1->C2->Hd Q->G:=by
 intro c1 c2 q
 (repeat((conv=>whnf);(fail_if_success refine rU.mk ?_);(fail_if_success refine aKX.mk ?_);(fail_if_success refine aEJ.mk ?_);first |refine Cd.gq ?_ |refine OB.mk Sd ?_ |refine OB.mk (λ_=>Sd) ?_ |refine Exists.intro _ (And.intro Nz ?_)|refine Exists.intro _ (And.intro ixN ?_)|refine Exists.intro _ (And.intro ixL ?_)|refine Exists.intro _ (And.intro (asI (by assumption)) ?_)|refine Or.inl (Exists.intro _ (And.intro (bFS Sd) ?_))|refine Or.inl (Exists.intro _ (And.intro (by assumption) ?_))|refine Exists.intro true (And.intro rfl ?_)|refine Exists.intro false (And.intro rfl ?_)|refine Exists.intro _ (And.intro Bz ?_)|refine Exists.intro _ (And.intro Nl ?_)|refine Exists.intro _ (And.intro Np ?_)|refine Exists.intro _ (And.intro (aYM c1 (by omega)) ?_)|refine Exists.intro _ (And.intro (aYM c2 (by omega)) ?_)|refine Exists.intro _ (And.intro (aYM (by assumption) (by omega)) ?_)|refine Exists.intro _ (And.intro rfl ?_)|refine And.intro rfl ?_ |refine aG rfl ?_ |refine aG (bID _) ?_ |refine aG Sd ?_ |refine iE (λ_=>Sd) ?_ |refine .inl ⟨.bool false,λh=>Bool.noConfusion (show false=true from h),.inr rfl,?_⟩|refine .inl ⟨_,λ_=>⟨aJY rfl,(by assumption)⟩,.inl rfl,?_⟩| (refine .inr ⟨λ_=>ucQ ?_,(by intro h;cases h)⟩;(conv=>whnf);refine Exists.intro _ (And.intro rfl ?_);refine⟨_,_,(by assumption),rfl,(by rfl),(by rfl),?_⟩)|refine aOJ (by assumption) ?_ |refine aOI (by assumption) ?_ |refine aVH (by omega) ?_ |refine aVG (by omega) ?_ |refine aOJ Sd ?_ |refine aOI Sd ?_ |refine cC Sd Sd ?_ |refine aRW Sd Sd Sd Sd ?_ |refine And.intro (Nat.le_of_ble_eq_true rfl) ?_ |refine And.intro (.inl rfl) ?_ |refine And.intro (λ_=>⟨rfl,Nat.le_of_ble_eq_true rfl⟩) ?_ |refine And.intro (λ_=>Nat.le_of_ble_eq_true rfl) ?_ |refine And.intro (λh=>Bool.noConfusion h) ?_ |refine And.intro (λ_=>Sd) ?_ |refine And.intro Sd ?_ |refine .inl ⟨_,λ_=>⟨aJY rfl,aJD (by assumption) Ag⟩,.inl rfl,?_⟩))
 (conv=>whnf)
 exact q.h):G:=h c1 c2 ⟨q⟩
end Go.Sk
namespace Go.Sk
open Go Go.RowKit
variable [gD]
def uU:RC->List Nat
 | .reg l _=>oT l
 | .dreg _ _ l _ _ _=>oT l
 | .seq a b=>uU a++uU b
 | .cut a b=>uU a++uU b
 | .regc a b _=>oT a++oT b
 | .regv a _ b _=>oT a++oT b
 | .cond _ a b=>uU a++uU b
 | .block _ c=>uU c
 | .loop c=>uU c
 | .uloop c=>uU c
 |_=> []
def aOU(ds:List Nat):aW->aW
 | []=> []
 | (d,⟨_,g,v⟩)::r=>match iO d ds with
   |true=>aOU ds r
   |false=>(d,⟨[],g,v⟩)::aOU ds r
def aOV(L ds:List Nat):aW->aW
 | []=> []
 | (d,⟨_,g,v⟩)::r=>match iO d ds with
   |true=>aOV L ds r
   |false=>(d,⟨[],g,arg2 L v⟩)::aOV L ds r
def idB:List Nat->Nat->Bool
 | [],_=>true
 |k::r,j=>match Nat.beq k j with
  |true=>idB r (j+1)
  |false=>false
def bGQ(L ds:List Nat)(sl:aW):aW:=match idB L 0 with
 |true=>aOU ds sl
 |false=>aOV L ds sl
def aM9 {α:Type} :List (Nat×α)->List Nat
 | []=> []
 | (k,_)::r=>k::aM9 r
def bF5:List (Nat×V)->aW->aW
 | [],l=>l
 | (d,v)::r,l=>(d,⟨[],true,v⟩)::bF5 r l
def bF4:List (Nat×Obj)->aD->aD
 | [],S=>S
 | (k,o)::r,S=>bF4 r (S.set k o)
def bE6(L:List Nat):aD->Nat->aD
 | [],_=> []
 | (_,o)::r,j=>(j,aSS L o)::bE6 L r (j+1)
def bL5(S:aD):aD:=match idB (aM9 S) 0 with
 |true=>S
 |false=>bE6 (aM9 S) S 0
def bKY(st:St)(os:List (Nat×Obj)):aD:=bF4 os (bL5 st.so)
def lpF(c:RC)(st:St)(us:List (Nat×V))(os:List (Nat×Obj)):St:= ⟨bF5 us (bGQ (aM9 st.so) (uU c++aM9 us) st.sl),bKY st os,(bKY st os).length⟩
def aW1(st:St)(K:St->Prop):Prop:=qV st.sl λsl=>dD st.so λso=>cD 64 0 st.nx λnx=>K ⟨sl,so,nx⟩
theorem aW2(st:St)(K:St->Prop):aW1 st K=K st:=by unfold aW1;rw [mS,eF,dL]
theorem Lp {P:Program} {n0:Nat} {c:RC} {st:St} {K:Ex->St->Prop} {α:Type} (I:α->Prop)(j:α->List (Nat×V))(f:α->List (Nat×Obj))(m:α->Nat)(e:α)(z:I e)(hv:View n0 st (lpF c st (j e) (f e)))
 (C:∀a,I a->aW1 (lpF c st (j a) (f a)) λD=>Cd P n0 c D (aUW n0 I (λa=>lpF c st (j a) (f a)) m a K)):aKX P n0 c st K:=
 ⟨α,I,_,m,⟨e,z,hv⟩,λa B=>by have :=C a B;rw [aW2,aSM] at this;exact this⟩
theorem Vr {n0:Nat} {st st':St} (ids:List (Option Nat))(h:VwP n0 st st' ids:=by
 refine⟨rfl,rfl,?_,?_,?_,?_,?_⟩
 rotate_left 4
 ·repeat' (first |exact trivial |rfl |exact .inl rfl |exact .inr rfl |exact id |exact zbc |refine And.intro ?_ ?_ |exact Sd | ((conv=>whnf);exact Sd))
 ·repeat' (first |exact trivial |rfl |exact .inl rfl |exact .inr rfl |exact id |exact zbc |refine And.intro ?_ ?_ |exact Sd | ((conv=>whnf);exact Sd))
 ·rfl
 ·repeat' (first |exact trivial |rfl |exact .inl rfl |exact .inr rfl |exact id |exact zbc |refine And.intro ?_ ?_ |exact Sd | ((conv=>whnf);exact Sd))
 ·rfl):View n0 st st':=bS ids h.h1 h.h2 h.h3 h.h4 h.h5 h.h6 h.h7
theorem Va {n0:Nat} {st st':St} (h:View n0 st st':=by first |exact Vz [] |exact Vr [some _] |exact Vr [some _,some _] |exact Vr [some _,some _,some _] |exact Vr [some _,some _,some _,some _] |exact Vr [some _,some _,some _,some _,some _] |exact Vr [some _,some _,some _,some _,some _,some _]):View n0 st st':=h
theorem mD {p:Prop} [Decidable p] {A B:Prop} (h:p->A)(k:¬p->B):cq (decide p) A B:=aC (λe=>h (of_decide_eq_true e)) (λe=>k (of_decide_eq_false e))
theorem bP1 {a b:Int} {A B:Prop} (h:a=b->A)(k:a≠b->B):cq (a==b) A B:=aC (λe=>h (eq_of_beq e)) (λe=>k (zbn.1 e))
theorem bA9 {a b:Int} {A B:Prop} (h:a≠b->A)(k:a=b->B):cq (a != b) A B:=aC (λe=>h (bne_iff_ne.1 e)) (λe=>k (bne_eq_false_iff_eq.1 e))
theorem Le {α:Type} {n0:Nat} {I:α->Prop} {F:α->St} {m:α->Nat} {a:α} {st:St} (b:α)(hI:I b:=by first |exact Sd | (dsimp only;exact Sd))(hv:View n0 st (F b):=by exact Va)(hm:m b<m a:=by first |exact Sd | (dsimp only;exact Sd)):aEJ n0 I F m a st:=⟨b,hI,hv,hm⟩
end Go.Sk
namespace Go.Sk
open Go Go.RowKit
variable [gD]
theorem Lo {G:Prop} (h:G:=by
 (try refine rU.mk ?_)
 (repeat((conv=>whnf);first |refine And.intro (λ_=>⟨rfl,Nat.le_of_ble_eq_true rfl⟩) ?_ |refine And.intro (λ_=>Nat.le_of_ble_eq_true rfl) ?_ |refine And.intro (Nat.le_of_ble_eq_true rfl) ?_ |refine And.intro (λ_=>Sd) ?_))
 (conv=>whnf)
 refine⟨[some 0],?_,rfl,?_,rfl,?_⟩
 all_goals(repeat' (first |exact trivial |rfl |exact .inl rfl |exact .inr rfl |exact id |exact zbc |refine And.intro ?_ ?_ |exact Sd | ((conv=>whnf);exact Sd)))):G:=h
theorem mkT {b n:Nat} (h:b*n<=1000000)(f:n<=1000000):mkB b (n:Int)=true:=by
 rw [aOY (by omega)];have e:(b:Int)*(n:Int)=((b*n:Nat):Int):=by simp
 rw [e];omega
theorem Wo {G:Prop} (h:G:=by refine Wx ?_;exact Lo):G:=h
end Go.Sk
namespace Go.Sk
open Go Go.RowKit
variable [gD]
def aO4(k:Nat)(l:List Nat)(K:List Nat->Prop):Prop:=match iO k l with
 |true=>K l
 |false=>cZ (l++ [k]) K
theorem aZU(k:Nat)(l:List Nat)(K:List Nat->Prop):aO4 k l K=K (addN k l):=by
 unfold aO4 addN
 cases iO k l with
 |true=>rfl
 |false=>exact fP _ _
def aWW:V->List Nat->(List Nat->Prop)->Prop
 | .ptr k _ _,l,K=>cD 64 0 k λk=>aO4 k l K
 | .sl k _ _,l,K=>cD 64 0 k λk=>aO4 k l K
 | .slx k _ _,l,K=>cD 64 0 k λk=>aO4 k l K
 | .slk k _ _ _,l,K=>cD 64 0 k λk=>aO4 k l K
 | .mp k,l,K=>cD 64 0 k λk=>aO4 k l K
 |_,l,K=>K l
theorem aJQ(v:V)(l:List Nat)(K:List Nat->Prop):aWW v l K=K (nm1 v l):=by
 cases v <;> simp only [aWW,nm1,dL,aZU]
def aCO:List V->List Nat->(List Nat->Prop)->Prop
 | [],l,K=>K l
 |v::r,l,K=>aWW v l λl=>aCO r l K
theorem aAG:∀(cs:List V) (l:List Nat) (K:List Nat->Prop),aCO cs l K=K (aMI cs l)
 | [],_,_=>rfl
 |v::r,l,K=>by simp only [aCO,aMI,aJQ,aAG r]
def aTT:List V->List Nat->(List Nat->Prop)->Prop
 | [],l,K=>K l
 | .agg cs::r,l,K=>aCO cs l λl=>aTT r l K
 | .fn _ cs::r,l,K=>aCO cs l λl=>aTT r l K
 |v::r,l,K=>aWW v l λl=>aTT r l K
theorem aR3:∀(cs:List V) (l:List Nat) (K:List Nat->Prop),aTT cs l K=K (nm2.nmT cs l)
 | [],_,_=>rfl
 |v::r,l,K=>by cases v <;> simp only [aTT,nm2.nmT,aJQ,aAG,aR3 r]
def bH3:V->List Nat->(List Nat->Prop)->Prop
 | .agg cs,l,K=>aCO cs l K
 | .fn _ cs,l,K=>aCO cs l K
 | .tup cs,l,K=>aTT cs l K
 |v,l,K=>aWW v l K
theorem bBC(v:V)(l:List Nat)(K:List Nat->Prop):bH3 v l K=K (nm2 v l):=by
 cases v <;> simp only [bH3,nm2,aJQ,aAG,aR3]
def aR2:List V->List Nat->(List Nat->Prop)->Prop
 | [],l,K=>K l
 |v::r,l,K=>bH3 v l λl=>aR2 r l K
theorem aMJ:∀(cs:List V) (l:List Nat) (K:List Nat->Prop),aR2 cs l K=K (aWX cs l)
 | [],_,_=>rfl
 |v::r,l,K=>by simp only [aR2,aWX,bBC,aMJ r]
def aTS(S:aD):List Nat->List Nat->(List Nat->Prop)->Prop
 | [],l,K=>K l
 |k::r,l,K=>match S.get k with
  |some (.box cs)=>aCO cs l λl=>aTS S r l K
  |_=>aTS S r l K
theorem aAH(S:aD):∀(r l:List Nat) (K:List Nat->Prop),aTS S r l K=K (nmB S r l)
 | [],_,_=>rfl
 |k::r,l,K=>by
  rw [aTS,nmB]
  cases S.get k with
  |none=>exact aAH S r l K
  |some o=>
   cases o with
   |box cs=> dsimp only;rw [aAG,aAH S r]
   |_=>exact aAH S r l K
def aWM(S:aD)(args:List V)(K:List Nat->Prop):Prop:=aR2 args [] λl=>aTS S l l λl=>aTS S l l K
theorem aWN(S:aD)(args:List V)(K:List Nat->Prop):aWM S args K=K (aMB S args):=by unfold aWM aMB;rw [aMJ,aAH,aAH]
theorem ucR {P:Program} {f:FuncId} {args:List V} {S:aD} {m:Nat} {K:V->aD->Nat->Prop} (h:aWM S args λL=>∃ob0,rB S L L=some ob0/\∃j z,aN P f ob0 (args.map (arg2 L)) z j/\iU L=true/\Nat.ble L.length j.length=true/\Nat.ble j.length (L.length+16)=true/\K (aAQ L m z) (lC S L (j.map (kZ L m)) m) (m+16)):pH P f args S m K:=by rw [aWN] at h;obtain⟨o0,e,C,r,B,h2⟩:=h;exact⟨_,o0,C,r,B,mZ e,h2⟩
theorem bO1 {b n:Nat} {K:Prop} (h:b*n<=1000000)(e:n<=1000000)(k:K):rq (mkB b (n:Int)) K:=by rw [mkT h e];exact k
theorem Wy {G Q:Prop} (q:Q)(h:Hd Q->G:=by
 intro q
 (repeat((conv=>whnf);(fail_if_success refine rU.mk ?_);(fail_if_success refine aKX.mk ?_);(fail_if_success refine aEJ.mk ?_);first |refine Cd.gq ?_ |refine OB.mk Sd ?_ |refine OB.mk (λ_=>Sd) ?_ |refine Exists.intro _ (And.intro Nz ?_)|refine Exists.intro _ (And.intro ixN ?_)|refine Exists.intro _ (And.intro ixL ?_)|refine Exists.intro _ (And.intro (asI (by assumption)) ?_)|refine Or.inl (Exists.intro _ (And.intro (bFS Sd) ?_))|refine Or.inl (Exists.intro _ (And.intro (by assumption) ?_))|refine Exists.intro true (And.intro rfl ?_)|refine Exists.intro false (And.intro rfl ?_)|refine Exists.intro _ (And.intro Bz ?_)|refine Exists.intro _ (And.intro Nl ?_)|refine Exists.intro _ (And.intro Np ?_)|refine Exists.intro _ (And.intro (aYM (by assumption) (by omega)) ?_)|refine Exists.intro _ (And.intro rfl ?_)|refine And.intro rfl ?_ |refine aG rfl ?_ |refine aG (bID _) ?_ |refine bO1 Sd Sd ?_ |refine aG Sd ?_ |refine iE (λ_=>Sd) ?_ |refine .inl ⟨.bool false,λh=>Bool.noConfusion (show false=true from h),.inr rfl,?_⟩|refine .inl ⟨_,λ_=>⟨aJY rfl,(by assumption)⟩,.inl rfl,?_⟩| (refine .inr ⟨λ_=>ucR ?_,(by intro h;cases h)⟩;(conv=>whnf);refine Exists.intro _ (And.intro rfl ?_);refine⟨_,_,(by assumption),rfl,(by rfl),(by rfl),?_⟩)|refine aOJ (by assumption) ?_ |refine aOI (by assumption) ?_ |refine aVH (by omega) ?_ |refine aVG (by omega) ?_ |refine aOJ Sd ?_ |refine aOI Sd ?_ |refine cC Sd Sd ?_ |refine aRW Sd Sd Sd Sd ?_ |refine And.intro (Nat.le_of_ble_eq_true rfl) ?_ |refine And.intro (.inl rfl) ?_ |refine And.intro (λ_=>⟨rfl,Nat.le_of_ble_eq_true rfl⟩) ?_ |refine And.intro (λ_=>Nat.le_of_ble_eq_true rfl) ?_ |refine And.intro (λh=>Bool.noConfusion h) ?_ |refine And.intro (λ_=>Sd) ?_ |refine And.intro Sd ?_ |refine .inl ⟨_,λ_=>⟨aJY rfl,aJD (by assumption) Ag⟩,.inl rfl,?_⟩))
 (conv=>whnf)
 exact q.h):G:=h ⟨q⟩
theorem Lo5 {G:Prop} (h:G:=by
 (try refine rU.mk ?_)
 (repeat((conv=>whnf);first |refine And.intro (λ_=>⟨rfl,Nat.le_of_ble_eq_true rfl⟩) ?_ |refine And.intro (λ_=>Nat.le_of_ble_eq_true rfl) ?_ |refine And.intro (Nat.le_of_ble_eq_true rfl) ?_ |refine And.intro (λ_=>Sd) ?_))
 (conv=>whnf)
 refine⟨[some 0,some 1,some 2,some 3,some 4],?_,rfl,?_,rfl,?_⟩
 all_goals(repeat' (first |exact trivial |rfl |exact .inl rfl |exact .inr rfl |exact id |exact zbc |refine And.intro ?_ ?_ |exact Sd | ((conv=>whnf);exact Sd)))):G:=h
theorem Wo5 {G:Prop} (h:G:=by refine Wy ?_;exact Lo5):G:=h
end Go.Sk
namespace Go.Sk
open Go Go.RowKit
variable [gD]
def aO6:Nat->List V
 |0=> []
 |n+1=>.any::aO6 n
theorem aG7:∀ {a b:List V} (h:a.length=b.length) (k:Nat) (l:List Nat),aDI a k l=aDI b k l
 | [],[],_,_,_=>rfl
 |_::r,_::s,h,k,l=>by rw [aDI,aDI,aG7 (by simpa using h)]
theorem aEN:∀n,(aO6 n).length=n
 |0=>rfl
 |n+1=>by rw [aO6,List.length_cons,aEN n]
structure Rsv(P:Program)(fn:Func)(ks:List Ct)(n:Nat) where
 rc:RC
 rvs:List RV
 h1:fn.results.toList.mapM (jC P)=some rvs
 h2:aGG P fn.ntmps (aDI (aO6 n) 0 (kP rvs)) ks (fn.body.getD .skip)=some rc
theorem mR {P:Program} {f:FuncId} {fn:Func} {z:List Ct} {n:Nat} (R:Rsv P fn z n) {ob0 e:List Obj} {args:List V} {j:V} (C:P.funcs[f]? =some fn)(m:fn.body.isSome=true)(D:args.length=n)(E:Nat.ble args.length fn.ntmps=true)
 (B:cD 16 0 ob0.length λn0=>Cd P n0 R.rc ⟨dN 0 args,aF 0 ob0,n0⟩ (rU P n0 R.rvs j e)):aN P f ob0 args j e:=by
 refine aQ z C m R.h1 ?_ E B;rw [aG7 (show args.length=(aO6 n).length by rw [aEN];exact D)];exact R.h2
theorem fnZ {P:Program} {f:FuncId} {fn:Func} {ks:List Ct} {n:Nat} (R:Rsv P fn ks n) {ob1:List Obj} {args:List V} {res:V} (hf:P.funcs[f]? =some fn)
 (hK:cD 16 0 0 λn0=>Cd P n0 R.rc ⟨dN 0 args,aF 0 [],n0⟩ (rU P n0 R.rvs res ob1)) (hb0:fn.body.isSome=true:=by exact rfl) (hl:args.length=n:=by exact rfl) (hn:Nat.ble args.length fn.ntmps=true:=by exact rfl):aN P f [] args res ob1:=
 mR R hf hb0 hl hn hK
end Go.Sk
namespace Go.Sk
open Go Go.RowKit
variable [gD]
theorem Lo2 {G:Prop} (h:G:=by
 (try refine rU.mk ?_)
 (repeat((conv=>whnf);first |refine And.intro (λ_=>⟨rfl,Nat.le_of_ble_eq_true rfl⟩) ?_ |refine And.intro (λ_=>Nat.le_of_ble_eq_true rfl) ?_ |refine And.intro (Nat.le_of_ble_eq_true rfl) ?_ |refine And.intro (λ_=>Sd) ?_))
 (conv=>whnf)
 refine⟨[some 0,some 1],?_,rfl,?_,rfl,?_⟩
 all_goals(repeat' (first |exact trivial |rfl |exact .inl rfl |exact .inr rfl |exact id |exact zbc |refine And.intro ?_ ?_ |exact Sd | ((conv=>whnf);exact Sd)))):G:=h
theorem Wo2 {G:Prop} (h:G:=by refine Wy ?_;exact Lo2):G:=h
theorem tT {G:Prop} (h:G:=by refine Wy ?_;exact Lz):G:=h
end Go.Sk
namespace Go.Sk
open Go Go.RowKit
variable [gD]
structure bJY(P:Program)(fn:Func)(ks:List Ct)(n:Nat) where
 ca:Code
 o:Oper
 g:FuncId
 cb:Code
 rca:RC
 rcb:RC
 rvs:List RV
 h0:aLK P (fn.body.getD .skip)=some (ca,o,g,cb)
 h1:fn.results.toList.mapM (jC P)=some rvs
 h2:aN8 P fn.ntmps (aDI (aO6 n) 0 (kP rvs)) ks ca cb=some (rca,rcb)
theorem aDS {P:Program} {f:FuncId} {fn:Func} {z:List Ct} {n:Nat} (R:bJY P fn z n) {ob0 e:List Obj} {args:List V} {j:V} (F:Quiet P R.g)(C:P.funcs[f]? =some fn)(m:fn.body.isSome=true)(D:args.length=n)(E:Nat.ble args.length fn.ntmps=true)
 (B:cD 16 0 ob0.length λn0=>Cd P n0 R.rca ⟨dN 0 args,aF 0 ob0,n0⟩ (bFJ P n0 R.rcb (rU P n0 R.rvs j e))):aN P f ob0 args j e:=by
 refine bGG z C m R.h0 F R.h1 ?_ E (by simpa only [aIX] using B);rw [aG7 (show args.length=(aO6 n).length by rw [aEN];exact D)];exact R.h2
end Go.Sk
