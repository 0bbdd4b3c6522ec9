/- Caches. -/
import Derived.Test.YtmhapcbjjpadnaaGreatK6c
import Derived.Test.YtmhapcbjjpadnaaGreatK7c
set_option linter.all false
namespace Go.Sk
open Go Go.RowKit
variable [gL]
def aEJ:V->Bool
 | .sl _ _ _=>false
 | .slk _ _ _ _=>false
 | .ptr _ _ _=>false
 |_=>true
def aWF:V->Bool
 | .agg cs=>cs.all aEJ
 | .fn _ cs=>cs.all aEJ
 |v=>aEJ v
theorem aP5 {S:aD} {v:V} (h:aEJ v=true):kH S v:=by
 cases v <;> first |exact trivial | (simp [aEJ] at h)
theorem aTT {S:aD} {v:V} (h:aWF v=true):pH S v:=by
 cases v with
 |agg j=>intro c e;exact aP5 (List.all_eq_true.1 h c e)
 |fn f j=>intro c e;exact aP5 (List.all_eq_true.1 h c e)
 |sl k o l=>simp [aWF,aEJ] at h
 |slk k o l c=>simp [aWF,aEJ] at h
 |ptr k i c=>simp [aWF,aEJ] at h
 |_=>exact trivial
theorem aLY {S:aD} {l:List V} (h:l.all aWF=true):∀v∈l,pH S v:=λv e=>aTT (List.all_eq_true.1 h v e)
theorem bU {n0:Nat} {st e:St} (ids:List (Option Nat))(f:e.so=aI 0 (e.so.map Prod.snd))(h2:e.nx=(e.so.map Prod.snd).length)(j:pN st.so ids ids (e.so.map Prod.snd))(h4:sF ids=true)
 (h5:oW 0 n0 ids) (m:Nat.ble n0 (e.so.map Prod.snd).length=true) (z:aCJ st.sl st.so ids e.sl):View n0 st e:=⟨ids,_,f,h2,j,h4,h5,m,z⟩
theorem aP {n:Int} (h: -9223372036854775808<=n:=by omega)(h':n<9223372036854775808:=by omega):IntKind.i64.wrap n=n:=by rw [IntKind.wrap_i64];omega
structure Hd(Q:Prop):Prop where
 h:Q
theorem Wk {G Q:Prop} (q:Q)(h:Hd Q->G:=by
 intro q
 (repeat((conv=>whnf);first |refine Cd.go ?_ |refine⟨rfl,?_⟩|refine aG ⟨.inl rfl,rfl⟩ ?_ |refine aG rfl ?_ |refine⟨Nat.le_of_ble_eq_true rfl,?_⟩|refine⟨.inl rfl,?_⟩|refine⟨λ_=>⟨rfl,Nat.le_of_ble_eq_true rfl⟩,?_⟩|refine⟨λ_=>Nat.le_of_ble_eq_true rfl,?_⟩|refine⟨λh=>Bool.noConfusion h,?_⟩))
 (conv=>whnf)
 exact q.h):G:=h ⟨q⟩
theorem cO {C1 G Q:Prop} (c1:C1)(q:Q)(h:C1->Hd Q->G:=by
 intro c1 q
 (repeat((conv=>whnf);first |refine Cd.go ?_ |refine⟨rfl,?_⟩|refine aG ⟨.inl rfl,rfl⟩ ?_ |refine aG rfl ?_ |refine⟨Nat.le_of_ble_eq_true rfl,?_⟩|refine⟨.inl rfl,?_⟩|refine⟨λ_=>⟨rfl,Nat.le_of_ble_eq_true rfl⟩,?_⟩|refine⟨λ_=>Nat.le_of_ble_eq_true rfl,?_⟩|refine⟨λh=>Bool.noConfusion h,?_⟩|refine .inl ⟨_,λ_=>⟨aLY rfl,(by exact c1)⟩,.inl rfl,?_⟩))
 (conv=>whnf)
 exact q.h):G:=h c1 ⟨q⟩
theorem Wk2 {C1 C2 G Q:Prop} (c1:C1)(c2:C2)(q:Q)(h:C1->C2->Hd Q->G:=by
 intro c1 c2 q
 (repeat((conv=>whnf);first |refine Cd.go ?_ |refine⟨rfl,?_⟩|refine aG ⟨.inl rfl,rfl⟩ ?_ |refine aG rfl ?_ |refine⟨Nat.le_of_ble_eq_true rfl,?_⟩|refine⟨.inl rfl,?_⟩|refine⟨λ_=>⟨rfl,Nat.le_of_ble_eq_true rfl⟩,?_⟩|refine⟨λ_=>Nat.le_of_ble_eq_true rfl,?_⟩|refine⟨λh=>Bool.noConfusion h,?_⟩|refine .inl ⟨_,λ_=>⟨aLY rfl,(by first |exact c1 |exact c2)⟩,.inl rfl,?_⟩))
 (conv=>whnf)
 exact q.h):G:=h c1 c2 ⟨q⟩
theorem Wk3 {C1 C2 C3 G Q:Prop} (c1:C1)(c2:C2)(c3:C3)(q:Q)(h:C1->C2->C3->Hd Q->G:=by
 intro c1 c2 c3 q
 (repeat((conv=>whnf);first |refine Cd.go ?_ |refine⟨rfl,?_⟩|refine aG ⟨.inl rfl,rfl⟩ ?_ |refine aG rfl ?_ |refine⟨Nat.le_of_ble_eq_true rfl,?_⟩|refine⟨.inl rfl,?_⟩|refine⟨λ_=>⟨rfl,Nat.le_of_ble_eq_true rfl⟩,?_⟩|refine⟨λ_=>Nat.le_of_ble_eq_true rfl,?_⟩|refine⟨λh=>Bool.noConfusion h,?_⟩|refine .inl ⟨_,λ_=>⟨aLY rfl,(by first |exact c1 |exact c2 |exact c3)⟩,.inl rfl,?_⟩))
 (conv=>whnf)
 exact q.h):G:=h c1 c2 c3 ⟨q⟩
theorem Lf {G:Prop} (h:G:=by
 refine⟨[],trivial,rfl,trivial,rfl,?_⟩
 repeat' (first |exact trivial |rfl |exact .inl rfl |exact .inr rfl |exact id |exact zbc |apply And.intro)):G:=h
theorem Cl {G:Prop} (h:G:=by repeat' (first |exact trivial |rfl |exact .inl rfl |exact .inr rfl |exact id |exact zbc |apply And.intro)):G:=h
structure VwP(n0:Nat)(st st':St)(ids:List (Option Nat)):Prop where
 h1:st'.so=aI 0 (st'.so.map Prod.snd)
 h2:st'.nx=(st'.so.map Prod.snd).length
 h3:pN st.so ids ids (st'.so.map Prod.snd)
 h4:sF ids=true
 h5:oW 0 n0 ids
 h6:Nat.ble n0 (st'.so.map Prod.snd).length=true
 h7:aCJ st.sl st.so ids st'.sl
theorem Vw {n0:Nat} {st st':St} (ids:List (Option Nat))(h:VwP n0 st st' ids:=by
 refine⟨rfl,rfl,?_,rfl,?_,rfl,?_⟩
 repeat' (first |exact trivial |rfl |exact .inl rfl |exact .inr rfl |exact id |exact zbc |apply And.intro)):View n0 st st':=bU ids h.h1 h.h2 h.h3 h.h4 h.h5 h.h6 h.h7
theorem Vq {n0:Nat} {st st':St} (ids:List (Option Nat))(h:VwP n0 st st' ids:=by
 refine⟨rfl,rfl,?_,?_,?_,?_,?_⟩
 rotate_left 4
 ·repeat' (first |exact trivial |rfl |exact .inl rfl |exact .inr rfl |exact id |exact zbc |apply And.intro)
 ·repeat' (first |exact trivial |rfl |exact .inl rfl |exact .inr rfl |exact id |exact zbc |apply And.intro)
 ·rfl
 ·repeat' (first |exact trivial |rfl |exact .inl rfl |exact .inr rfl |exact id |exact zbc |apply And.intro)
 ·rfl):View n0 st st':=bU ids h.h1 h.h2 h.h3 h.h4 h.h5 h.h6 h.h7
theorem cK {P:Program} {f:FuncId} {fn:Func} {rc:RC} {rvs:List RV} {ob1:List Obj} {args:List V} {res:V} (hf:P.funcs[f]? =some fn)
 (hK:cL 16 0 0 λn0=>Cd P n0 rc ⟨dV 0 args,aI 0 [],n0⟩ (gR P n0 rvs res ob1)) (hb0:fn.body.isSome=true:=by exact rfl)
 (hrv:fn.results.toList.mapM (jR P)=some rvs:=by exact rfl) (hres:aI9 P fn.ntmps (aFB args 0 (lJ rvs)) [] (fn.body.getD .skip)=some rc:=by exact rfl) (hn:Nat.ble args.length fn.ntmps=true:=by exact rfl):aM P f [] args res ob1:=
 eT [] hf hb0 hrv hres hn hK
abbrev bN(d s:Nat):iZ:=⟨some d,none,.mv (.t s)⟩
abbrev fS(d g k s:Nat):iZ:=⟨some d,some (g,false),.faddr k (.t s)⟩
abbrev iS(d g k s:Nat):iZ:=⟨some d,some (g,false),.ld false k (.t s)⟩
abbrev mZ(d a b:Nat):iZ:=⟨some d,none,.pick (.t a) (.c (.bool true)) (.t b)⟩
abbrev oZ(d:Nat):iZ:=⟨some d,none,.mv (.c (.bool false))⟩
abbrev pF(d k s:Nat):iZ:=⟨some d,none,.ld true k (.t s)⟩
abbrev qS(d s:Nat):iZ:=⟨some d,none,.len (.t s)⟩
abbrev pE(d k s:Nat):iZ:=⟨some d,none,.faddr k (.t s)⟩
abbrev qR(d k a b:Nat):iZ:=⟨some d,none,.iaddr k (.t a) (.t b)⟩
abbrev sU(d k s:Nat):iZ:=⟨some d,none,.ld false k (.t s)⟩
abbrev aH8(d:Nat)(n:Int):iZ:=⟨some d,none,.mv (.c (.int .i64 n))⟩
abbrev aHA(d a b:Nat):iZ:=⟨some d,none,.bin .lss (.t a) (.t b)⟩
abbrev aH7(d a:Nat)(n:Int):iZ:=⟨some d,none,.bin .add (.t a) (.c (.int .i64 n))⟩
abbrev aJM(d g s:Nat):iZ:=⟨some d,some (g,false),.mv (.t s)⟩
end Go.Sk
namespace Go.Sk
open Go Go.RowKit
variable [gL]
def vQ(v:V)(K:V->Prop):Prop:=
 match v with
 | .int k n=>∃m,n=m/\K (.int k m)
 | .ptr k i c=>∃j,i=j/\K (.ptr k j c)
 | .rp es cs c=>∃r,cs=r/\K (.rp es r c)
 | .sl k off len=>∃p:Nat×Nat,(off,len)=p/\K (.sl k p.1 p.2)
 | .bool b=>∃c,b=c/\K (.bool c)
 |v=>K v
theorem bRK(v:V)(K:V->Prop):vQ v K=K v:=by
 unfold vQ;split
 all_goals first
  |rfl
  |exact propext ⟨(by rintro ⟨_,rfl,h⟩;exact h),λh=>⟨_,rfl,h⟩⟩
structure OB(C K:Prop):Prop where
 h:C
 k:K
theorem bFD {C K:Prop} :OB C K=(C/\K):=propext ⟨λh=>⟨h.h,h.k⟩,λh=>⟨h.1,h.2⟩⟩
def bDG(P:Program)(ssl:bA)(sso:aD)(snx:Nat)(ch:List (Nat×Bool))(gc:Bool)(i:I)(K:V->aD->Nat->Prop):Prop:=
 match i with
 | .ld agg n x=>match bR ssl ch x with
   | .ptr k i c=>match sso.get k with
     |some (.row es xs)=>gq gc (decide (i<xs.length)) (∃r,xs.getD i []=r/\rq (decide (c+n<=es)) (K (rA agg es r c n) sso snx))
     |_=>fI P ssl sso snx ch gc (.ld agg n x) K
   |_=>fI P ssl sso snx ch gc (.ld agg n x) K
 | .st m x y=>match ch with
   | []=>match bR ssl [] x,(bR ssl [] y).cells? with
     | .ptr k i c,some cs=>match sso.get k with
       |some (.row es xs)=>rq (decide (i<xs.length)) (rq (decide (c+m<=es)) (rq (decide (cs.length=m)) (rq (cs.all cN) (∃r,xs.getD i []=r/\K .any (sso.set k (.row es (xs.set i (aS es r c cs)))) snx))))
       |_=>fI P ssl sso snx [] gc (.st m x y) K
     |_,_=>fI P ssl sso snx [] gc (.st m x y) K
   |g::r=>fI P ssl sso snx (g::r) gc (.st m x y) K
 | .scat x y=>match bR ssl ch x,bR ssl ch y with
   | .str a,.str b=>OB (gc=true->a.size+b.size<=9223372036854775807) (K (.str (a++b)) sso snx)
   |_,_=>fI P ssl sso snx ch gc (.scat x y) K
 | .s2b x=>match ch with
   | []=>match bR ssl [] x with
     | .str s=>OB (s.size<=9223372036854775807) (K (.sl snx 0 s.size) (sso.set snx (.bb s.data.toList)) (snx+1))
     |_=>fI P ssl sso snx [] gc (.s2b x) K
   |g::r=>fI P ssl sso snx (g::r) gc (.s2b x) K
 | .b2s x=>match unk (bR ssl ch x) with
   | .sl k off len=>match sso.get k with
     |some (.row 1 xs)=>(∃l,iO ((xs.drop off).take len)=some l/\gq gc (decide (off+len<=xs.length)) (K (.str ⟨l.toArray⟩) sso snx))\/(iO ((xs.drop off).take len)=none/\rq (!gc) (K .any sso snx))
     |_=>fI P ssl sso snx ch gc (.b2s x) K
   |_=>fI P ssl sso snx ch gc (.b2s x) K
 | .bin op x y=>fI P ssl sso snx ch gc (.bin op x y) λv S n=>vQ v λv=>K v S n
 | .conv k x=>fI P ssl sso snx ch gc (.conv k x) λv S n=>vQ v λv=>K v S n
 | .pick c a b=>fI P ssl sso snx ch gc (.pick c a b) λv S n=>vQ v λv=>K v S n
 | .un op x=>fI P ssl sso snx ch gc (.un op x) λv S n=>vQ v λv=>K v S n
 | .iaddr es x i=>fI P ssl sso snx ch gc (.iaddr es x i) λv S n=>vQ v λv=>K v S n
 | .slc es x a b=>fI P ssl sso snx ch gc (.slc es x a b) λv S n=>vQ v λv=>K v S n
 | .len x=>fI P ssl sso snx ch gc (.len x) λv S n=>vQ v λv=>K v S n
 | .app es by_ x y=>fI P ssl sso snx ch gc (.app es by_ x y) λv S n=>vQ v λv=>K v S n
 | .mx x y=>fI P ssl sso snx ch gc (.mx x y) λv S n=>vQ v λv=>K v S n
 | .mn x y=>fI P ssl sso snx ch gc (.mn x y) λv S n=>vQ v λv=>K v S n
 |i=>fI P ssl sso snx ch gc i K
theorem aSZ(P:Program)(ssl:bA)(z:aD)(m:Nat)(ch:List (Nat×Bool))(C:Bool)(i:I)(K:V->aD->Nat->Prop):bDG P ssl z m ch C i K=fI P ssl z m ch C i K:=by
 unfold bDG;split
 ·split
  ·rename_i f;split
   ·rename_i h2;simp only [fI,rdF,f,h2,aQW];exact propext ⟨(by rintro ⟨B,_,rfl,h⟩;exact⟨B,h⟩),λh=>⟨h.1,_,rfl,h.2⟩⟩
   ·rfl
  ·rfl
 ·split
  ·split
   ·rename_i f h2;split
    ·rename_i B;simp only [fI,tG,wrF,f,h2,B,gI];exact propext ⟨(by rintro ⟨a,b,c,d,_,rfl,h⟩;exact⟨a,b,c,d,h⟩),λ⟨a,b,c,d,h⟩=>⟨a,b,c,d,_,rfl,h⟩⟩
    ·rfl
   ·rfl
  ·rfl
 ·split
  ·rename_i f h2;simp only [fI,rdF,f,h2,aQW,bFD,Nat.ble_eq]
  ·rfl
 ·split
  ·split
   ·rename_i f;simp only [fI,tG,wrF,f,gI,bFD,Nat.ble_eq]
   ·rfl
  ·rfl
 ·split
  ·rename_i f;split
   ·rename_i xs h2;simp only [fI,rdF,f,h2];split
    ·rename_i l j
     exact propext ⟨(by rintro (⟨l',e,h⟩| ⟨e,h⟩);·rw [j] at e;cases e;exact h
                        ·rw [j] at e;cases e),λh=>.inl ⟨l,j,h⟩⟩
    ·rename_i j
     exact propext ⟨(by rintro (⟨l',e,h⟩| ⟨e,h⟩);·rw [j] at e;cases e
                        ·exact h),λh=>.inr ⟨j,h⟩⟩
   ·rfl
  ·rfl
 all_goals first |rfl | (simp only [bRK])
def aRA(P:Program):List iZ->St->(St->Prop)->Prop
 | [],st,K=>K st
 | ⟨d,g,i⟩::r,⟨ssl,sso,snx⟩,K=>rY ssl g λch gc=>bDG P ssl sso snx ch gc i λv S n=>oB v λv=>dN S λS=>cL 64 0 n λn=>aC3 ssl d ⟨ch,gc,v⟩ λsl=>aRA P r ⟨sl,S,n⟩ K
theorem aBY(P:Program):∀(l:List iZ) (st:St) (K:St->Prop),aRA P l st K=aFA P l st K
 | [],_,_=>rfl
 | ⟨d,g,i⟩::r,⟨ssl,f,e⟩,K=>by simp only [aRA,aFA,aSZ,aBY P r]
def aY3(P:Program):St->Nat->Option Nat->Option (Nat×Bool)->I->(Rec->St->Prop)->Prop
 | ⟨ssl,sso,snx⟩,m,d,g,i,K=>
 dI (gsl g++aPS i) λrds=>rX (look ssl rds) λSL=>rY SL g λch gc=>dI (uD i SL sso) λT=>dN (iT sso T) λSO=>dI (gsl g++chs SL) λG=>
  bDG P SL SO m ch gc i λv S1 n1=>oB v λv=>dN S1 λS1=>dI (wrI SL T m n1 i) λW=>dI (W++aHM m S1) λids=>
   (aD8 T m S1&&(qY d G&&(aGD (m+16) ids&&(aIZ W T&&(aIZ (chT ch) G&&(aGH m T&&Nat.ble n1 (m+16)))))))=true/\aEQ SO S1 W
   (aC3 ssl d ⟨ch,gc,v⟩ λsl=>dN (aC0 sso S1 ids) λso=>K ⟨m,rds++G,chT ch,d,⟨ch,gc,v⟩,T,ids,S1⟩ ⟨sl,so,snx⟩) T
theorem aY4(P:Program)(st:St)(m:Nat)(d:Option Nat)(g:Option (Nat×Bool))(i:I)(K:Rec->St->Prop):aY3 P st m d g i K=aGQ P st m d g i K:=by obtain⟨ssl,f,e⟩:=st;simp only [aY3,aGQ,aSZ,aLK]
def aNR(P:Program):List iZ->List Nat->St->(List Rec->St->Prop)->Prop
 | [],[],st,K=>K [] st
 | ⟨d,g,i⟩::r,m::ms,st,K=>aY3 P st m d g i λrc st'=>aNR P r ms st' λrs st''=>K (rc::rs) st''
 |_,_,_,_=>False
theorem aNS(P:Program):∀(l:List iZ) (e:List Nat) (st:St) (K:List Rec->St->Prop),aNR P l e st K=nY P l e st K
 | [],[],_,_=>rfl
 | [],_::_,_,_=>rfl
 |_::_,[],_,_=>rfl
 | ⟨d,g,i⟩::r,m::e,st,K=>by simp only [aNR,nY,aY4,aNS P r]
structure aN0(P:Program)(n0:Nat)(c:RC)(st:St)(K:Ex->St->Prop):Prop where
 h:∃(α:Type) (I:α->Prop) (F:α->St) (m:α->Nat),(∃a,I a/\View n0 st (F a))/\∀a,I a->Cd P n0 c (F a) (aS7 n0 I F m a K)
structure aGC {α:Type} (n0:Nat)(I:α->Prop)(F:α->St)(m:α->Nat)(a:α)(st:St):Prop where
 h:∃a',I a'/\View n0 st (F a')/\m a'<m a
def aXG {α:Type} (n0:Nat)(I:α->Prop)(F:α->St)(m:α->Nat)(a:α)(K:Ex->St->Prop)(e:Ex)(st':St):Prop:=
 match e with
 | .normal=>aGC n0 I F m a st'
 | .exit id=>K (.exit id) st'
 | .ret=>K .ret st'
theorem aV2 {α:Type} (n0:Nat)(I:α->Prop)(F:α->St)(m:α->Nat)(a:α)(K:Ex->St->Prop):aXG n0 I F m a K=aS7 n0 I F m a K:=by
 funext e f
 cases e with
 |normal=>exact propext ⟨λh=>h.h,λh=>⟨h⟩⟩
 |_=>rfl
structure pR(P:Program)(n0:Nat)(rvs:List RV)(res:V)(ob1:List Obj)(e:Ex)(st:St):Prop where
 h:gR P n0 rvs res ob1 e st
theorem aKR(P:Program)(n0:Nat)(rvs:List RV)(j:V)(f:List Obj):pR P n0 rvs j f=gR P n0 rvs j f:=by
 funext e st
 exact propext ⟨λh=>h.h,λh=>⟨h⟩⟩
theorem aE(C:List Ct) {P:Program} {f:FuncId} {fn:Func} {rc:RC} {rvs:List RV} {ob0 j:List Obj} {args:List V} {m:V} (E:P.funcs[f]? =some fn)(z:fn.body.isSome=true)
 (B:fn.results.toList.mapM (jR P)=some rvs) (e:aI9 P fn.ntmps (aFB args 0 (lJ rvs)) C (fn.body.getD .skip)=some rc) (F:Nat.ble args.length fn.ntmps=true)
 (D:cL 16 0 ob0.length λn0=>Cd P n0 rc ⟨dV 0 args,aI 0 ob0,n0⟩ (pR P n0 rvs m j)):aM P f ob0 args m j:=
 eT C E z B e F (by simpa only [aKR] using D)
def CdQ(P:Program)(n0:Nat)(rc:RC)(st:St)(K:Ex->St->Prop):Prop:=
 match rc with
 | .reg l kill=>aRA P l st λ| ⟨sl0,so0,nx0⟩=>fE kill sl0 λsl=>K .normal ⟨sl,so0,nx0⟩
 | .dreg b0 n l kill an ms=>match Nat.ble st.nx b0 with
   |true=>aNR P l ms ⟨st.sl,st.so,n⟩ λ|recs,⟨sl0,so0,nx0⟩=>nX recs an 0=true/\fE kill (look sl0 (qU sl0)) λsl=>K .normal ⟨sl,so0,nx0⟩
   |false=>aNR P l (shM st.nx ms) ⟨st.sl,st.so,n+st.nx⟩ λ|recs,⟨sl0,so0,nx0⟩=>nX recs an 0=true/\fE kill (look sl0 (qU sl0)) λsl=>K .normal ⟨sl,so0,nx0⟩
 | .loop c=>aN0 P n0 c st K
 |rc=>CdB P n0 rc st K
theorem Cd.gq {P:Program} {n0:Nat} {rc:RC} {st:St} {K:Ex->St->Prop} (h:CdQ P n0 rc st K):Cd P n0 rc st K:=by
 cases rc with
 |reg l k=>exact Cd.reg (by rw [<-aBY];exact h)
 |dreg j n l e f m=> unfold CdQ at h;simp only [aNS] at h;exact Cd.go h
 |loop c=>exact Cd.loop h.h
 |_=>exact Cd.go h
omit [gL] in
theorem wI {n:Int} (h: -9223372036854775808<=n)(e:n<9223372036854775808):IntKind.i64.wrap n=n:=by rw [IntKind.wrap_i64];omega
omit [gL] in
theorem aDI(x:Nat)(h:x<9223372036854775808):(BitVec.ofInt 64 (x:Int)).toNat=x:=by rw [BitVec.toNat_ofInt];omega
omit [gL] in
theorem bNF {x y:Nat} (e:x<9223372036854775808)(f:y<9223372036854775808):gC .and .i64 (x:Int) (y:Int)=((x &&& y:Nat):Int):=by have h:=Nat.and_le_left (n:=x) (m:=y);show IntKind.i64.wrap (((BitVec.ofInt 64 (x:Int)&&& BitVec.ofInt 64 (y:Int)).toNat:Nat):Int)=_;rw [BitVec.toNat_and,aDI x e,aDI y f];exact wI (by omega) (by omega)
omit [gL] in
theorem bOr {x y:Nat} (e:x<9223372036854775808)(f:y<9223372036854775808):gC .or .i64 (x:Int) (y:Int)=((x ||| y:Nat):Int):=by
 have h:=Nat.or_lt_two_pow (n:=63) e f;show IntKind.i64.wrap (((BitVec.ofInt 64 (x:Int)||| BitVec.ofInt 64 (y:Int)).toNat:Nat):Int)=_
 rw [BitVec.toNat_or,aDI x e,aDI y f];exact wI (by omega) (by omega)
omit [gL] in
theorem bSF {x y:Nat} (e:x<9223372036854775808)(f:y<9223372036854775808):gC .xor .i64 (x:Int) (y:Int)=((x ^^^ y:Nat):Int):=by have h:=Nat.xor_lt_two_pow (n:=63) e f;show IntKind.i64.wrap (((BitVec.ofInt 64 (x:Int)^^^ BitVec.ofInt 64 (y:Int)).toNat:Nat):Int)=_;rw [BitVec.toNat_xor,aDI x e,aDI y f];exact wI (by omega) (by omega)
omit [gL] in
theorem bNG {x b:Nat} (e:x<9223372036854775808)(f:(OfNat.ofNat b:Nat)<9223372036854775808):gC .and .i64 (x:Int) (OfNat.ofNat b:Int)=((x &&& (OfNat.ofNat b:Nat):Nat):Int):=bNF e f
omit [gL] in
theorem bSE {x b:Nat} (e:x<9223372036854775808)(f:(OfNat.ofNat b:Nat)<9223372036854775808):gC .or .i64 (x:Int) (OfNat.ofNat b:Int)=((x ||| (OfNat.ofNat b:Nat):Nat):Int):=bOr e f
omit [gL] in
theorem bU0 {a k:Nat} (f:k<63)(h:a*2^k<9223372036854775808):IntKind.i64.wrap ((a:Int)*2^min (k:Int).toNat IntKind.i64.bits)=((a*2^k:Nat):Int):=by
 have e:min (k:Int).toNat IntKind.i64.bits=k:=by show min k 64=k;omega
 rw [e,show(a:Int)*2^k=((a*2^k:Nat):Int) by simp];exact wI (by omega) (by omega)
omit [gL] in
theorem bTZ {k:Nat} (e:k<62):IntKind.i64.wrap (1*2^min (k:Int).toNat IntKind.i64.bits)=((2^k:Nat):Int):=by
 have h:2^k<2^62:=Nat.pow_lt_pow_right (by omega) e;have :=bU0 (a:=1) (k:=k) (by omega) (by omega)
 rwa [Nat.one_mul] at this
omit [gL] in
theorem bU1 {a k:Nat} (j:k<=64):(a:Int).fdiv (2^min (k:Int).toNat IntKind.i64.bits)=((a/2^k:Nat):Int):=by
 have e:min (k:Int).toNat IntKind.i64.bits=k:=by show min k 64=k;omega
 have f:(2:Int)^k=((2^k:Nat):Int):=by simp
 rw [e,f,Int.fdiv_eq_ediv_of_nonneg _ (Int.natCast_nonneg _)];exact(Int.natCast_ediv _ _).symm
omit [gL] in
theorem divN {a b:Nat} (e:a<9223372036854775808):IntKind.i64.wrap ((a:Int).tdiv (b:Int))=((a/b:Nat):Int):=by have h:=Nat.div_le_self a b;rw [show(a:Int).tdiv (b:Int)=((a/b:Nat):Int) by rw [Int.tdiv_eq_ediv_of_nonneg (by omega)];exact(Int.natCast_ediv _ _).symm];generalize a/b=c at *;exact wI (by omega) (by omega)
omit [gL] in
theorem bSG {a b:Nat} (e:a<9223372036854775808):IntKind.i64.wrap ((a:Int).tdiv (OfNat.ofNat b:Int))=((a/(OfNat.ofNat b:Nat):Nat):Int):=divN e
omit [gL] in
theorem bO4 {a b:Nat} :(a:Int).tmod (b:Int)=((a%b:Nat):Int):=by rw [Int.tmod_eq_emod_of_nonneg (by omega)];exact(Int.natCast_emod _ _).symm
omit [gL] in
theorem bST {a b:Nat} :(a:Int).tmod (OfNat.ofNat b:Int)=((a%(OfNat.ofNat b:Nat):Nat):Int):=bO4
omit [gL] in
theorem wA {i j:Nat} (h:i+j<9223372036854775807):IntKind.i64.wrap ((i:Int)+(j:Int))=((i+j:Nat):Int):=by rw [wI (by omega) (by omega)];omega
omit [gL] in
theorem wAL {i b:Nat} (h:i+(OfNat.ofNat b:Nat)<9223372036854775807):IntKind.i64.wrap ((i:Int)+(OfNat.ofNat b:Int))=((i+(OfNat.ofNat b:Nat):Nat):Int):=wA h
omit [gL] in
theorem wLA {i b:Nat} (h:(OfNat.ofNat b:Nat)+i<9223372036854775807):IntKind.i64.wrap ((OfNat.ofNat b:Int)+(i:Int))=(((OfNat.ofNat b:Nat)+i:Nat):Int):=wA h
omit [gL] in
theorem wM {i j:Nat} (h:i*j<9223372036854775807):IntKind.i64.wrap ((i:Int)*(j:Int))=((i*j:Nat):Int):=by rw [<-Int.natCast_mul];exact wI (by omega) (by omega)
omit [gL] in
theorem wML {i b:Nat} (h:i*(OfNat.ofNat b:Nat)<9223372036854775807):IntKind.i64.wrap ((i:Int)*(OfNat.ofNat b:Int))=((i*(OfNat.ofNat b:Nat):Nat):Int):=wM h
omit [gL] in
theorem wD {i j:Nat} (h:j<=i)(h2:i<9223372036854775807):IntKind.i64.wrap ((i:Int)- (j:Int))=((i-j:Nat):Int):=by rw [wI (by omega) (by omega)];omega
omit [gL] in
theorem wP {i:Nat} (h:i<9223372036854775807):IntKind.i64.wrap (((i+1:Nat):Int)-1)=(i:Int):=by rw [wI (by omega) (by omega)];omega
omit [gL] in
theorem wDL {i b:Nat} (h:(OfNat.ofNat b:Nat)<=i)(h2:i<9223372036854775807):IntKind.i64.wrap ((i:Int)- (OfNat.ofNat b:Int))=((i- (OfNat.ofNat b:Nat):Nat):Int):=wD h h2
omit [gL] in
theorem wLD {i b:Nat} (h:i<=(OfNat.ofNat b:Nat))(h2:(OfNat.ofNat b:Nat)<9223372036854775807):IntKind.i64.wrap ((OfNat.ofNat b:Int)- (i:Int))=(((OfNat.ofNat b:Nat)-i:Nat):Int):=wD h h2
omit [gL] in
theorem ixN {n:Nat} :0+(n:Int).toNat=n:=by rw [Nat.zero_add];rfl
omit [gL] in
theorem ixL {n:Nat} :0+(OfNat.ofNat n:Int).toNat=(OfNat.ofNat n:Nat):=ixN
omit [gL] in
theorem mxN {a b:Nat} :max (a:Int) (b:Int)=((max a b:Nat):Int):=by omega
omit [gL] in
theorem mxL {a b:Nat} :max (a:Int) (OfNat.ofNat b:Int)=((max a (OfNat.ofNat b:Nat):Nat):Int):=mxN
omit [gL] in
theorem mnN {a b:Nat} :min (a:Int) (b:Int)=((min a b:Nat):Int):=by omega
omit [gL] in
theorem mnL {a b:Nat} :min (a:Int) (OfNat.ofNat b:Int)=((min a (OfNat.ofNat b:Nat):Nat):Int):=mnN
omit [gL] in
theorem Nz {a b:Int} (h:a=b:=by first |with_reducible exact wP (by omega)|with_reducible exact wAL (by omega)|with_reducible exact wA (by omega)|with_reducible exact wDL (by omega) (by omega)|with_reducible exact wD (by omega) (by omega)|with_reducible exact wML (by omega)|with_reducible exact bSG (by omega)|with_reducible exact bST |with_reducible exact bNF (by omega) (by omega)|with_reducible exact bNG (by omega) (by omega)|with_reducible exact bOr (by omega) (by omega)|with_reducible exact bSE (by omega) (by omega)|with_reducible exact bTZ (by omega)|with_reducible exact wM (by omega)|with_reducible exact divN (by omega)|with_reducible exact bO4 |with_reducible exact wLA (by omega)|with_reducible exact wLD (by omega) (by omega)|with_reducible exact mxN |with_reducible exact mxL |with_reducible exact mnN |with_reducible exact mnL |with_reducible exact bU1 (by omega)|with_reducible exact bSF (by omega) (by omega)|with_reducible exact wI (by omega) (by omega)):a=b:=h
theorem eqT {a b:Int} (h:a=b):(a==b)=true:=zbe.2 h
theorem eqF {a b:Int} (h:a≠b):(a==b)=false:=zbn.2 h
theorem neT {a b:Int} (h:a≠b):(a != b)=true:=bne_iff_ne.2 h
theorem neF {a b:Int} (h:a=b):(a != b)=false:=bne_eq_false_iff_eq.2 h
theorem deT {p:Prop} [Decidable p](h:p):decide p=true:=zdt h
theorem deF {p:Prop} [Decidable p](h:¬p):decide p=false:=zdf h
theorem Bz {a b:Bool} (h:a=b:=by first |with_reducible exact deT (by omega)|with_reducible exact deF (by omega)|with_reducible exact eqT (by omega)|with_reducible exact eqF (by omega)|with_reducible exact neT (by omega)|with_reducible exact neF (by omega)):a=b:=h
theorem bG5:∀n:Nat,iO (List.replicate n [V.int .u8 0])=some (List.replicate n 0)
 |0=>rfl
 |n+1=>by rw [List.replicate_succ,iO,bG5 n];rfl
theorem bIH {n m:Nat} (h:n<=m):iO (List.take n (List.drop 0 (List.replicate m [V.int .u8 0])))=some (List.replicate n 0):=by rw [List.drop_zero,List.take_replicate,Nat.min_eq_left h,bG5]
theorem asI {a b:Int} (h:a=b):a=b:=h
theorem Nl {a b:Int} (h:a=b:=by simp;rfl):a=b:=h
theorem Np {o l l':Nat} (h:l=l':=by simp;rfl):(o,l)=(o,l'):=by rw [h]
theorem bI3 {α:Type} {xs:List α} {n:Nat} (h:xs.length<=n):List.take n (List.drop 0 xs)=xs:=by rw [List.drop_zero,List.take_of_length_le h]
theorem Sd {p:Prop} (h:p:=by(fail_if_success exact True.intro);first |omega |exact bI3 (by first |omega | (simp;done)| (simp;omega))| (simp(disch:=omega) [wI,List.take_of_length_le];done)| (simp(disch:=omega) only [wI];omega)| (simp(disch:=omega) [wI,List.take_of_length_le];omega)):p:=h
theorem bL4(x:UInt8):0<=(x.toNat:Int)/\(x.toNat:Int)<256:=by have :=x.toNat_lt;omega
theorem aQO {x:Bool} {A B:Prop} (h:x=true)(a:A):cq x A B:=by rw [aSI];exact⟨λ_=>a,λe=>by rw [h] at e;cases e⟩
theorem aQN {x:Bool} {A B:Prop} (h:x=false)(b:B):cq x A B:=by rw [aSI];exact⟨(λe=>by rw [h] at e;cases e),λ_=>b⟩
theorem aY1 {p:Prop} [Decidable p] {A B:Prop} (h:p)(a:A):cq (decide p) A B:=aQO (zdt h) a
theorem aY0 {p:Prop} [Decidable p] {A B:Prop} (h:¬p)(b:B):cq (decide p) A B:=aQN (zdf h) b
theorem aLD {P:Program} {f:FuncId} {o j:List Obj} {a b:List V} {r:V} (h:aM P f o a r j)(e:b=a):aM P f o b r j:=e▸h
theorem bB5 {xs:List (List V)} {i n:Nat} {r:List V} (h:xs.getD n []=r)(e:i=n):xs.getD i []=r:=by rw [e,h]
theorem aQV {l:List Nat} {K:List Nat->Prop} (h:dI l K):K l:=by rwa [fZ] at h
theorem ucQ {P:Program} {f:FuncId} {args:List V} {S:aD} {m:Nat} {K:V->aD->Nat->Prop} (h:dI (aOH S args) λL=>∃ob0,sD S L L=some ob0/\∃j z,aM P f ob0 (args.map (arg2 L)) z j/\jJ L=true/\Nat.ble L.length j.length=true/\Nat.ble j.length (L.length+16)=true/\K (aC7 L m z) (mA S L (j.map (lY L m)) m) (m+16)):qD P f args S m K:=by obtain⟨C,e,D,r,B,h2⟩:=aQV h;exact⟨_,C,D,r,B,oG e,h2⟩
theorem bCM {a b:V} {l m:List V} (h:a=b)(k:l=m):a::l=b::m:=by rw [h,k]
theorem bIG {l m:List V} (h:l=m):V.agg l=V.agg m:=by rw [h]
theorem int_eq {k:IntKind} {n m:Int} (h:n=m):V.int k n=V.int k m:=by rw [h]
theorem bCI {n m:Bool} (h:n=m):V.bool n=V.bool m:=by rw [h]
theorem bJD {k:Nat} {b:Bool} {n m:List (List V)} (h:n=m):V.lst k b n=V.lst k b m:=by rw [h]
theorem bRJ {k a b c d:Nat} (h:a=c)(e:b=d):V.sl k a b=V.sl k c d:=by rw [h,e]
theorem Ag {a b:List V} (h:a=b:=by
 repeat' (first |refine bCM ?_ ?_ |rfl |refine bIG ?_ |refine int_eq ?_ |refine bCI ?_ |refine bJD ?_ |refine bRJ ?_ ?_ |exact Sd)):a=b:=h
theorem Cz {G:Prop} (h:G:=by repeat' (first |exact trivial |rfl |exact .inl rfl |exact .inr rfl |exact id |exact zbc |refine And.intro ?_ ?_ |exact Sd | ((conv=>whnf);exact Sd))):G:=h
theorem Lz {G:Prop} (h:G:=by
 (try refine pR.mk ?_)
 (repeat((conv=>whnf);first |refine And.intro (λ_=>⟨rfl,Nat.le_of_ble_eq_true rfl⟩) ?_ |refine And.intro (λ_=>Nat.le_of_ble_eq_true rfl) ?_ |refine And.intro (Nat.le_of_ble_eq_true rfl) ?_ |refine And.intro (λ_=>Sd) ?_))
 (conv=>whnf)
 refine⟨[],trivial,rfl,trivial,rfl,?_⟩
 repeat' (first |exact trivial |rfl |exact .inl rfl |exact .inr rfl |exact id |exact zbc |refine And.intro ?_ ?_ |exact Sd | ((conv=>whnf);exact Sd))):G:=h
theorem Vz {n0:Nat} {st st':St} (ids:List (Option Nat))(h:VwP n0 st st' ids:=by
 refine⟨rfl,rfl,?_,rfl,?_,rfl,?_⟩
 repeat' (first |exact trivial |rfl |exact .inl rfl |exact .inr rfl |exact id |exact zbc |refine And.intro ?_ ?_ |exact Sd | ((conv=>whnf);exact Sd))):View n0 st st':=bU ids h.h1 h.h2 h.h3 h.h4 h.h5 h.h6 h.h7
theorem Wx {G Q:Prop} (q:Q)(h:Hd Q->G:=by
 intro q
 (repeat((conv=>whnf);(fail_if_success refine pR.mk ?_);(fail_if_success refine aN0.mk ?_);(fail_if_success refine aGC.mk ?_);first |refine Cd.gq ?_ |refine OB.mk Sd ?_ |refine OB.mk (λ_=>Sd) ?_ |refine Exists.intro _ (And.intro Nz ?_)|refine Exists.intro _ (And.intro ixN ?_)|refine Exists.intro _ (And.intro ixL ?_)|refine Exists.intro _ (And.intro (asI (by assumption)) ?_)|refine Or.inl (Exists.intro _ (And.intro (bIH Sd) ?_))|refine Or.inl (Exists.intro _ (And.intro (by assumption) ?_))|refine Exists.intro true (And.intro rfl ?_)|refine Exists.intro false (And.intro rfl ?_)|refine Exists.intro _ (And.intro Bz ?_)|refine Exists.intro _ (And.intro Nl ?_)|refine Exists.intro _ (And.intro Np ?_)|refine Exists.intro _ (And.intro (bB5 (by assumption) (by omega)) ?_)|refine Exists.intro _ (And.intro rfl ?_)|refine And.intro rfl ?_ |refine aG rfl ?_ |refine aG (bL4 _) ?_ |refine aG Sd ?_ |refine kE (λ_=>Sd) ?_ |refine .inl ⟨.bool false,λh=>Bool.noConfusion (show false=true from h),.inr rfl,?_⟩|refine .inl ⟨_,λ_=>⟨aLY rfl,(by assumption)⟩,.inl rfl,?_⟩| (refine .inr ⟨λ_=>ucQ ?_,(by intro h;cases h)⟩;(conv=>whnf);refine Exists.intro _ (And.intro rfl ?_);refine⟨_,_,(by assumption),rfl,(by rfl),(by rfl),?_⟩)|refine aQO (by assumption) ?_ |refine aQN (by assumption) ?_ |refine aY1 (by omega) ?_ |refine aY0 (by omega) ?_ |refine aQO Sd ?_ |refine aQN Sd ?_ |refine cA Sd Sd ?_ |refine aU8 Sd Sd Sd Sd ?_ |refine And.intro (Nat.le_of_ble_eq_true rfl) ?_ |refine And.intro (.inl rfl) ?_ |refine And.intro (λ_=>⟨rfl,Nat.le_of_ble_eq_true rfl⟩) ?_ |refine And.intro (λ_=>Nat.le_of_ble_eq_true rfl) ?_ |refine And.intro (λh=>Bool.noConfusion h) ?_ |refine And.intro (λ_=>Sd) ?_ |refine And.intro Sd ?_ |refine .inl ⟨_,λ_=>⟨aLY rfl,aLD (by assumption) Ag⟩,.inl rfl,?_⟩))
 (conv=>whnf)
 exact q.h):G:=h ⟨q⟩
theorem Wz {G:Prop} (h:G:=by refine Wx ?_;exact Lz):G:=h
theorem Wx2 {C1 C2 G Q:Prop} (c1:C1)(c2:C2)(q:Q)(h:C1->C2->Hd Q->G:=by
 intro c1 c2 q
 (repeat((conv=>whnf);(fail_if_success refine pR.mk ?_);(fail_if_success refine aN0.mk ?_);(fail_if_success refine aGC.mk ?_);first |refine Cd.gq ?_ |refine OB.mk Sd ?_ |refine OB.mk (λ_=>Sd) ?_ |refine Exists.intro _ (And.intro Nz ?_)|refine Exists.intro _ (And.intro ixN ?_)|refine Exists.intro _ (And.intro ixL ?_)|refine Exists.intro _ (And.intro (asI (by assumption)) ?_)|refine Or.inl (Exists.intro _ (And.intro (bIH Sd) ?_))|refine Or.inl (Exists.intro _ (And.intro (by assumption) ?_))|refine Exists.intro true (And.intro rfl ?_)|refine Exists.intro false (And.intro rfl ?_)|refine Exists.intro _ (And.intro Bz ?_)|refine Exists.intro _ (And.intro Nl ?_)|refine Exists.intro _ (And.intro Np ?_)|refine Exists.intro _ (And.intro (bB5 c1 (by omega)) ?_)|refine Exists.intro _ (And.intro (bB5 c2 (by omega)) ?_)|refine Exists.intro _ (And.intro (bB5 (by assumption) (by omega)) ?_)|refine Exists.intro _ (And.intro rfl ?_)|refine And.intro rfl ?_ |refine aG rfl ?_ |refine aG (bL4 _) ?_ |refine aG Sd ?_ |refine kE (λ_=>Sd) ?_ |refine .inl ⟨.bool false,λh=>Bool.noConfusion (show false=true from h),.inr rfl,?_⟩|refine .inl ⟨_,λ_=>⟨aLY rfl,(by assumption)⟩,.inl rfl,?_⟩| (refine .inr ⟨λ_=>ucQ ?_,(by intro h;cases h)⟩;(conv=>whnf);refine Exists.intro _ (And.intro rfl ?_);refine⟨_,_,(by assumption),rfl,(by rfl),(by rfl),?_⟩)|refine aQO (by assumption) ?_ |refine aQN (by assumption) ?_ |refine aY1 (by omega) ?_ |refine aY0 (by omega) ?_ |refine aQO Sd ?_ |refine aQN Sd ?_ |refine cA Sd Sd ?_ |refine aU8 Sd Sd Sd Sd ?_ |refine And.intro (Nat.le_of_ble_eq_true rfl) ?_ |refine And.intro (.inl rfl) ?_ |refine And.intro (λ_=>⟨rfl,Nat.le_of_ble_eq_true rfl⟩) ?_ |refine And.intro (λ_=>Nat.le_of_ble_eq_true rfl) ?_ |refine And.intro (λh=>Bool.noConfusion h) ?_ |refine And.intro (λ_=>Sd) ?_ |refine And.intro Sd ?_ |refine .inl ⟨_,λ_=>⟨aLY rfl,aLD (by assumption) Ag⟩,.inl rfl,?_⟩))
 (conv=>whnf)
 exact q.h):G:=h c1 c2 ⟨q⟩
end Go.Sk
namespace Go.Sk
open Go Go.RowKit
variable [gL]
def aAE:RC->List Nat
 | .reg l _=>pU l
 | .dreg _ _ l _ _ _=>pU l
 | .seq a b=>aAE a++aAE b
 | .cut a b=>aAE a++aAE b
 | .regc a b _=>pU a++pU b
 | .regv a _ b _=>pU a++pU b
 | .cond _ a b=>aAE a++aAE b
 | .block _ c=>aAE c
 | .loop c=>aAE c
 | .uloop c=>aAE c
 |_=> []
def aR1(ds:List Nat):bA->bA
 | []=> []
 | (d,⟨_,g,v⟩)::r=>match jB d ds with
   |true=>aR1 ds r
   |false=>(d,⟨[],g,v⟩)::aR1 ds r
def aR2(L ds:List Nat):bA->bA
 | []=> []
 | (d,⟨_,g,v⟩)::r=>match jB d ds with
   |true=>aR2 L ds r
   |false=>(d,⟨[],g,arg2 L v⟩)::aR2 L ds r
def idB:List Nat->Nat->Bool
 | [],_=>true
 |k::r,j=>match Nat.beq k j with
  |true=>idB r (j+1)
  |false=>false
def bJB(L ds:List Nat)(sl:bA):bA:=match idB L 0 with
 |true=>aR1 ds sl
 |false=>aR2 L ds sl
def aOF {α:Type} :List (Nat×α)->List Nat
 | []=> []
 | (k,_)::r=>k::aOF r
def bHU:List (Nat×V)->bA->bA
 | [],l=>l
 | (d,v)::r,l=>(d,⟨[],true,v⟩)::bHU r l
def bHT:List (Nat×Obj)->aD->aD
 | [],S=>S
 | (k,o)::r,S=>bHT r (S.set k o)
def bGM(L:List Nat):aD->Nat->aD
 | [],_=> []
 | (_,o)::r,j=>(j,aV7 L o)::bGM L r (j+1)
def bO8(S:aD):aD:=match idB (aOF S) 0 with
 |true=>S
 |false=>bGM (aOF S) S 0
def bO2(st:St)(os:List (Nat×Obj)):aD:=bHT os (bO8 st.so)
def lpF(c:RC)(st:St)(us:List (Nat×V))(os:List (Nat×Obj)):St:= ⟨bHU us (bJB (aOF st.so) (aAE c++aOF us) st.sl),bO2 st os,(bO2 st os).length⟩
def aYK(st:St)(K:St->Prop):Prop:=rX st.sl λsl=>dN st.so λso=>cL 64 0 st.nx λnx=>K ⟨sl,so,nx⟩
theorem aYL(st:St)(K:St->Prop):aYK st K=K st:=by unfold aYK;rw [oA,eU,dS]
theorem Lp {P:Program} {n0:Nat} {c:RC} {st:St} {K:Ex->St->Prop} {α:Type} (I:α->Prop)(j:α->List (Nat×V))(f:α->List (Nat×Obj))(m:α->Nat)(e:α)(z:I e)(hv:View n0 st (lpF c st (j e) (f e)))
 (C:∀a,I a->aYK (lpF c st (j a) (f a)) λD=>Cd P n0 c D (aXG n0 I (λa=>lpF c st (j a) (f a)) m a K)):aN0 P n0 c st K:=
 ⟨α,I,_,m,⟨e,z,hv⟩,λa B=>by have :=C a B;rw [aYL,aV2] at this;exact this⟩
theorem Vr {n0:Nat} {st st':St} (ids:List (Option Nat))(h:VwP n0 st st' ids:=by
 refine⟨rfl,rfl,?_,?_,?_,?_,?_⟩
 rotate_left 4
 ·repeat' (first |exact trivial |rfl |exact .inl rfl |exact .inr rfl |exact id |exact zbc |refine And.intro ?_ ?_ |exact Sd | ((conv=>whnf);exact Sd))
 ·repeat' (first |exact trivial |rfl |exact .inl rfl |exact .inr rfl |exact id |exact zbc |refine And.intro ?_ ?_ |exact Sd | ((conv=>whnf);exact Sd))
 ·rfl
 ·repeat' (first |exact trivial |rfl |exact .inl rfl |exact .inr rfl |exact id |exact zbc |refine And.intro ?_ ?_ |exact Sd | ((conv=>whnf);exact Sd))
 ·rfl):View n0 st st':=bU ids h.h1 h.h2 h.h3 h.h4 h.h5 h.h6 h.h7
theorem Va {n0:Nat} {st st':St} (h:View n0 st st':=by first |exact Vz [] |exact Vr [some _] |exact Vr [some _,some _] |exact Vr [some _,some _,some _] |exact Vr [some _,some _,some _,some _] |exact Vr [some _,some _,some _,some _,some _] |exact Vr [some _,some _,some _,some _,some _,some _]):View n0 st st':=h
theorem gE {p:Prop} [Decidable p] {A B:Prop} (h:p->A)(k:¬p->B):cq (decide p) A B:=aC (λe=>h (of_decide_eq_true e)) (λe=>k (of_decide_eq_false e))
theorem bNJ {a b:Int} {A B:Prop} (h:a=b->A)(k:a≠b->B):cq (a==b) A B:=aC (λe=>h (eq_of_beq e)) (λe=>k (zbn.1 e))
theorem bCO {a b:Int} {A B:Prop} (h:a≠b->A)(k:a=b->B):cq (a != b) A B:=aC (λe=>h (bne_iff_ne.1 e)) (λe=>k (bne_eq_false_iff_eq.1 e))
theorem Le {α:Type} {n0:Nat} {I:α->Prop} {F:α->St} {m:α->Nat} {a:α} {st:St} (b:α)(hI:I b:=by first |exact Sd | (dsimp only;exact Sd))(hv:View n0 st (F b):=by exact Va)(hm:m b<m a:=by first |exact Sd | (dsimp only;exact Sd)):aGC n0 I F m a st:=⟨b,hI,hv,hm⟩
end Go.Sk
namespace Go.Sk
open Go Go.RowKit
variable [gL]
theorem Lo {G:Prop} (h:G:=by
 (try refine pR.mk ?_)
 (repeat((conv=>whnf);first |refine And.intro (λ_=>⟨rfl,Nat.le_of_ble_eq_true rfl⟩) ?_ |refine And.intro (λ_=>Nat.le_of_ble_eq_true rfl) ?_ |refine And.intro (Nat.le_of_ble_eq_true rfl) ?_ |refine And.intro (λ_=>Sd) ?_))
 (conv=>whnf)
 refine⟨[some 0],?_,rfl,?_,rfl,?_⟩
 all_goals(repeat' (first |exact trivial |rfl |exact .inl rfl |exact .inr rfl |exact id |exact zbc |refine And.intro ?_ ?_ |exact Sd | ((conv=>whnf);exact Sd)))):G:=h
theorem mkT {b n:Nat} (h:b*n<=1000000)(f:n<=1000000):mkB b (n:Int)=true:=by
 rw [aR5 (by omega)];have e:(b:Int)*(n:Int)=((b*n:Nat):Int):=by simp
 rw [e];omega
theorem Wo {G:Prop} (h:G:=by refine Wx ?_;exact Lo):G:=h
end Go.Sk
namespace Go.Sk
open Go Go.RowKit
variable [gL]
def aQA(k:Nat)(l:List Nat)(K:List Nat->Prop):Prop:=match jB k l with
 |true=>K l
 |false=>dI (l++ [k]) K
theorem bC9(k:Nat)(l:List Nat)(K:List Nat->Prop):aQA k l K=K (addN k l):=by
 unfold aQA addN
 cases jB k l with
 |true=>rfl
 |false=>exact fZ _ _
def aZH:V->List Nat->(List Nat->Prop)->Prop
 | .ptr k _ _,l,K=>cL 64 0 k λk=>aQA k l K
 | .sl k _ _,l,K=>cL 64 0 k λk=>aQA k l K
 | .slx k _ _,l,K=>cL 64 0 k λk=>aQA k l K
 | .slk k _ _ _,l,K=>cL 64 0 k λk=>aQA k l K
 | .mp k,l,K=>cL 64 0 k λk=>aQA k l K
 |_,l,K=>K l
theorem aLQ(v:V)(l:List Nat)(K:List Nat->Prop):aZH v l K=K (nm1 v l):=by
 cases v <;> simp only [aZH,nm1,dS,bC9]
def aEE:List V->List Nat->(List Nat->Prop)->Prop
 | [],l,K=>K l
 |v::r,l,K=>aZH v l λl=>aEE r l K
theorem aBR:∀(cs:List V) (l:List Nat) (K:List Nat->Prop),aEE cs l K=K (aON cs l)
 | [],_,_=>rfl
 |v::r,l,K=>by simp only [aEE,aON,aLQ,aBR r]
def aWA:List V->List Nat->(List Nat->Prop)->Prop
 | [],l,K=>K l
 | .agg cs::r,l,K=>aEE cs l λl=>aWA r l K
 | .fn _ cs::r,l,K=>aEE cs l λl=>aWA r l K
 |v::r,l,K=>aZH v l λl=>aWA r l K
theorem aTB:∀(cs:List V) (l:List Nat) (K:List Nat->Prop),aWA cs l K=K (nm2.nmT cs l)
 | [],_,_=>rfl
 |v::r,l,K=>by cases v <;> simp only [aWA,nm2.nmT,aLQ,aBR,aTB r]
def bJK:V->List Nat->(List Nat->Prop)->Prop
 | .agg cs,l,K=>aEE cs l K
 | .fn _ cs,l,K=>aEE cs l K
 | .tup cs,l,K=>aWA cs l K
 |v,l,K=>aZH v l K
theorem bDP(v:V)(l:List Nat)(K:List Nat->Prop):bJK v l K=K (nm2 v l):=by
 cases v <;> simp only [bJK,nm2,aLQ,aBR,aTB]
def aTA:List V->List Nat->(List Nat->Prop)->Prop
 | [],l,K=>K l
 |v::r,l,K=>bJK v l λl=>aTA r l K
theorem aOO:∀(cs:List V) (l:List Nat) (K:List Nat->Prop),aTA cs l K=K (aZI cs l)
 | [],_,_=>rfl
 |v::r,l,K=>by simp only [aTA,aZI,bDP,aOO r]
def aW9(S:aD):List Nat->List Nat->(List Nat->Prop)->Prop
 | [],l,K=>K l
 |k::r,l,K=>match S.get k with
  |some (.box cs)=>aEE cs l λl=>aW9 S r l K
  |_=>aW9 S r l K
theorem aBS(S:aD):∀(r l:List Nat) (K:List Nat->Prop),aW9 S r l K=K (nmB S r l)
 | [],_,_=>rfl
 |k::r,l,K=>by
  rw [aW9,nmB]
  cases S.get k with
  |none=>exact aBS S r l K
  |some o=>
   cases o with
   |box cs=> dsimp only;rw [aBR,aBS S r]
   |_=>exact aBS S r l K
def aZ8(S:aD)(args:List V)(K:List Nat->Prop):Prop:=aTA args [] λl=>aW9 S l l λl=>aW9 S l l K
theorem aZ9(S:aD)(args:List V)(K:List Nat->Prop):aZ8 S args K=K (aOH S args):=by unfold aZ8 aOH;rw [aOO,aBS,aBS]
theorem ucR {P:Program} {f:FuncId} {args:List V} {S:aD} {m:Nat} {K:V->aD->Nat->Prop} (h:aZ8 S args λL=>∃ob0,sD S L L=some ob0/\∃j z,aM P f ob0 (args.map (arg2 L)) z j/\jJ L=true/\Nat.ble L.length j.length=true/\Nat.ble j.length (L.length+16)=true/\K (aC7 L m z) (mA S L (j.map (lY L m)) m) (m+16)):qD P f args S m K:=by rw [aZ9] at h;obtain⟨C,e,D,r,B,h2⟩:=h;exact⟨_,C,D,r,B,oG e,h2⟩
theorem bRG {b n:Nat} {K:Prop} (h:b*n<=1000000)(e:n<=1000000)(k:K):rq (mkB b (n:Int)) K:=by rw [mkT h e];exact k
theorem Wy {G Q:Prop} (q:Q)(h:Hd Q->G:=by
 intro q
 (repeat((conv=>whnf);(fail_if_success refine pR.mk ?_);(fail_if_success refine aN0.mk ?_);(fail_if_success refine aGC.mk ?_);first |refine Cd.gq ?_ |refine OB.mk Sd ?_ |refine OB.mk (λ_=>Sd) ?_ |refine Exists.intro _ (And.intro Nz ?_)|refine Exists.intro _ (And.intro ixN ?_)|refine Exists.intro _ (And.intro ixL ?_)|refine Exists.intro _ (And.intro (asI (by assumption)) ?_)|refine Or.inl (Exists.intro _ (And.intro (bIH Sd) ?_))|refine Or.inl (Exists.intro _ (And.intro (by assumption) ?_))|refine Exists.intro true (And.intro rfl ?_)|refine Exists.intro false (And.intro rfl ?_)|refine Exists.intro _ (And.intro Bz ?_)|refine Exists.intro _ (And.intro Nl ?_)|refine Exists.intro _ (And.intro Np ?_)|refine Exists.intro _ (And.intro (bB5 (by assumption) (by omega)) ?_)|refine Exists.intro _ (And.intro rfl ?_)|refine And.intro rfl ?_ |refine aG rfl ?_ |refine aG (bL4 _) ?_ |refine bRG Sd Sd ?_ |refine aG Sd ?_ |refine kE (λ_=>Sd) ?_ |refine .inl ⟨.bool false,λh=>Bool.noConfusion (show false=true from h),.inr rfl,?_⟩|refine .inl ⟨_,λ_=>⟨aLY rfl,(by assumption)⟩,.inl rfl,?_⟩| (refine .inr ⟨λ_=>ucR ?_,(by intro h;cases h)⟩;(conv=>whnf);refine Exists.intro _ (And.intro rfl ?_);refine⟨_,_,(by assumption),rfl,(by rfl),(by rfl),?_⟩)|refine aQO (by assumption) ?_ |refine aQN (by assumption) ?_ |refine aY1 (by omega) ?_ |refine aY0 (by omega) ?_ |refine aQO Sd ?_ |refine aQN Sd ?_ |refine cA Sd Sd ?_ |refine aU8 Sd Sd Sd Sd ?_ |refine And.intro (Nat.le_of_ble_eq_true rfl) ?_ |refine And.intro (.inl rfl) ?_ |refine And.intro (λ_=>⟨rfl,Nat.le_of_ble_eq_true rfl⟩) ?_ |refine And.intro (λ_=>Nat.le_of_ble_eq_true rfl) ?_ |refine And.intro (λh=>Bool.noConfusion h) ?_ |refine And.intro (λ_=>Sd) ?_ |refine And.intro Sd ?_ |refine .inl ⟨_,λ_=>⟨aLY rfl,aLD (by assumption) Ag⟩,.inl rfl,?_⟩))
 (conv=>whnf)
 exact q.h):G:=h ⟨q⟩
theorem Lo5 {G:Prop} (h:G:=by
 (try refine pR.mk ?_)
 (repeat((conv=>whnf);first |refine And.intro (λ_=>⟨rfl,Nat.le_of_ble_eq_true rfl⟩) ?_ |refine And.intro (λ_=>Nat.le_of_ble_eq_true rfl) ?_ |refine And.intro (Nat.le_of_ble_eq_true rfl) ?_ |refine And.intro (λ_=>Sd) ?_))
 (conv=>whnf)
 refine⟨[some 0,some 1,some 2,some 3,some 4],?_,rfl,?_,rfl,?_⟩
 all_goals(repeat' (first |exact trivial |rfl |exact .inl rfl |exact .inr rfl |exact id |exact zbc |refine And.intro ?_ ?_ |exact Sd | ((conv=>whnf);exact Sd)))):G:=h
theorem Wo5 {G:Prop} (h:G:=by refine Wy ?_;exact Lo5):G:=h
end Go.Sk
namespace Go.Sk
open Go Go.RowKit
variable [gL]
def aQB:Nat->List V
 |0=> []
 |n+1=>.any::aQB n
theorem aHY:∀ {a b:List V} (h:a.length=b.length) (k:Nat) (l:List Nat),aFB a k l=aFB b k l
 | [],[],_,_,_=>rfl
 |_::r,_::s,h,k,l=>by rw [aFB,aFB,aHY (by simpa using h)]
theorem aGF:∀n,(aQB n).length=n
 |0=>rfl
 |n+1=>by rw [aQB,List.length_cons,aGF n]
structure Rsv(P:Program)(fn:Func)(ks:List Ct)(n:Nat) where
 rc:RC
 rvs:List RV
 h1:fn.results.toList.mapM (jR P)=some rvs
 h2:aI9 P fn.ntmps (aFB (aQB n) 0 (lJ rvs)) ks (fn.body.getD .skip)=some rc
theorem cX {P:Program} {f:FuncId} {fn:Func} {z:List Ct} {n:Nat} (R:Rsv P fn z n) {ob0 e:List Obj} {args:List V} {j:V} (C:P.funcs[f]? =some fn)(m:fn.body.isSome=true)(D:args.length=n)(E:Nat.ble args.length fn.ntmps=true)
 (B:cL 16 0 ob0.length λn0=>Cd P n0 R.rc ⟨dV 0 args,aI 0 ob0,n0⟩ (pR P n0 R.rvs j e)):aM P f ob0 args j e:=by
 refine aE z C m R.h1 ?_ E B;rw [aHY (show args.length=(aQB n).length by rw [aGF];exact D)];exact R.h2
theorem fnZ {P:Program} {f:FuncId} {fn:Func} {ks:List Ct} {n:Nat} (R:Rsv P fn ks n) {ob1:List Obj} {args:List V} {res:V} (hf:P.funcs[f]? =some fn)
 (hK:cL 16 0 0 λn0=>Cd P n0 R.rc ⟨dV 0 args,aI 0 [],n0⟩ (pR P n0 R.rvs res ob1)) (hb0:fn.body.isSome=true:=by exact rfl) (hl:args.length=n:=by exact rfl) (hn:Nat.ble args.length fn.ntmps=true:=by exact rfl):aM P f [] args res ob1:=
 cX R hf hb0 hl hn hK
end Go.Sk
namespace Go.Sk
open Go Go.RowKit
variable [gL]
theorem Lo2 {G:Prop} (h:G:=by
 (try refine pR.mk ?_)
 (repeat((conv=>whnf);first |refine And.intro (λ_=>⟨rfl,Nat.le_of_ble_eq_true rfl⟩) ?_ |refine And.intro (λ_=>Nat.le_of_ble_eq_true rfl) ?_ |refine And.intro (Nat.le_of_ble_eq_true rfl) ?_ |refine And.intro (λ_=>Sd) ?_))
 (conv=>whnf)
 refine⟨[some 0,some 1],?_,rfl,?_,rfl,?_⟩
 all_goals(repeat' (first |exact trivial |rfl |exact .inl rfl |exact .inr rfl |exact id |exact zbc |refine And.intro ?_ ?_ |exact Sd | ((conv=>whnf);exact Sd)))):G:=h
theorem Wo2 {G:Prop} (h:G:=by refine Wy ?_;exact Lo2):G:=h
theorem kK {G:Prop} (h:G:=by refine Wy ?_;exact Lz):G:=h
end Go.Sk
namespace Go.Sk
open Go Go.RowKit
variable [gL]
structure bN7(P:Program)(fn:Func)(ks:List Ct)(n:Nat) where
 ca:Code
 o:Oper
 g:FuncId
 cb:Code
 rca:RC
 rcb:RC
 rvs:List RV
 h0:aNO P (fn.body.getD .skip)=some (ca,o,g,cb)
 h1:fn.results.toList.mapM (jR P)=some rvs
 h2:aPH P fn.ntmps (aFB (aQB n) 0 (lJ rvs)) ks ca cb=some (rca,rcb)
theorem aFP {P:Program} {f:FuncId} {fn:Func} {z:List Ct} {n:Nat} (R:bN7 P fn z n) {ob0 e:List Obj} {args:List V} {j:V} (F:Quiet P R.g)(C:P.funcs[f]? =some fn)(m:fn.body.isSome=true)(D:args.length=n)(E:Nat.ble args.length fn.ntmps=true)
 (B:cL 16 0 ob0.length λn0=>Cd P n0 R.rca ⟨dV 0 args,aI 0 ob0,n0⟩ (bI7 P n0 R.rcb (pR P n0 R.rvs j e))):aM P f ob0 args j e:=by
 refine bJ4 z C m R.h0 F R.h1 ?_ E (by simpa only [aKR] using B);rw [aHY (show args.length=(aQB n).length by rw [aGF];exact D)];exact R.h2
end Go.Sk
