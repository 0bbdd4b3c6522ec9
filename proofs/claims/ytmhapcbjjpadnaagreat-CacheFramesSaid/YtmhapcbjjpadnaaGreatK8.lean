/- Caches. -/
import Derived.Test.YtmhapcbjjpadnaaGreatK6
import Derived.Test.YtmhapcbjjpadnaaGreatK7
set_option linter.unusedSimpArgs false
set_option linter.unusedVariables false
set_option linter.unusedSectionVars false
namespace Go.Sk
open Go Go.RowKit
variable [fY]
def aB5:V→Bool
 | .sl _ _ _=>false
 | .slk _ _ _ _=>false
 | .ptr _ _ _=>false
 |_=>true
def aQA:V→Bool
 | .agg cs=>cs.all aB5
 | .fn _ cs=>cs.all aB5
 |v=>aB5 v
theorem aK2 {S:aD} {v:V} (h:aB5 v=true):iG S v:=by
 cases v <;> first |exact trivial | (simp [aB5] at h)
theorem aO5 {S:aD} {v:V} (h:aQA v=true):mH S v:=by
 cases v with
 |agg cs=>intro c hc;exact aK2 (List.all_eq_true.1 h c hc)
 |fn f cs=>intro c hc;exact aK2 (List.all_eq_true.1 h c hc)
 |sl k o l=>simp [aQA,aB5] at h
 |slk k o l c=>simp [aQA,aB5] at h
 |ptr k i c=>simp [aQA,aB5] at h
 |_=>exact trivial
theorem aHF {S:aD} {l:List V} (h:l.all aQA=true):∀v∈l,mH S v:=fun v hv=>aO5 (List.all_eq_true.1 h v hv)
theorem bT {n0:Nat} {st st':St} (ids:List (Option Nat))(h1:st'.so=aM 0 (st'.so.map Prod.snd))(h2:st'.nx=(st'.so.map Prod.snd).length)(h3:mO st.so ids ids (st'.so.map Prod.snd))(h4:pE ids=true)
 (h5:mB 0 n0 ids) (h6:Nat.ble n0 (st'.so.map Prod.snd).length=true) (h7:vE st.sl st.so ids st'.sl):View n0 st st':=⟨ids,_,h1,h2,h3,h4,h5,h6,h7⟩
theorem aO {n:Int} (h: -9223372036854775808≤n:=by omega)(h':n<9223372036854775808:=by omega):IntKind.i64.wrap n=n:=by rw [IntKind.wrap_i64];omega
structure Hd(Q:Prop):Prop where
 h:Q
theorem Wk {G Q:Prop} (q:Q)(h:Hd Q→G:=by
 intro q
 (repeat((conv=>whnf);first |refine Cd.go ?_ |refine⟨rfl,?_⟩|refine aB ⟨.inl rfl,rfl⟩ ?_ |refine aB rfl ?_ |refine⟨Nat.le_of_ble_eq_true rfl,?_⟩|refine⟨.inl rfl,?_⟩|refine⟨fun _=>⟨rfl,Nat.le_of_ble_eq_true rfl⟩,?_⟩|refine⟨fun _=>Nat.le_of_ble_eq_true rfl,?_⟩|refine⟨fun h=>Bool.noConfusion h,?_⟩))
 (conv=>whnf)
 exact q.h):G:=h ⟨q⟩
theorem cC {C1 G Q:Prop} (c1:C1)(q:Q)(h:C1→Hd Q→G:=by
 intro c1 q
 (repeat((conv=>whnf);first |refine Cd.go ?_ |refine⟨rfl,?_⟩|refine aB ⟨.inl rfl,rfl⟩ ?_ |refine aB rfl ?_ |refine⟨Nat.le_of_ble_eq_true rfl,?_⟩|refine⟨.inl rfl,?_⟩|refine⟨fun _=>⟨rfl,Nat.le_of_ble_eq_true rfl⟩,?_⟩|refine⟨fun _=>Nat.le_of_ble_eq_true rfl,?_⟩|refine⟨fun h=>Bool.noConfusion h,?_⟩|refine .inl ⟨_,fun _=>⟨aHF rfl,(by exact c1)⟩,.inl rfl,?_⟩))
 (conv=>whnf)
 exact q.h):G:=h c1 ⟨q⟩
theorem vJ {C1 C2 G Q:Prop} (c1:C1)(c2:C2)(q:Q)(h:C1→C2→Hd Q→G:=by
 intro c1 c2 q
 (repeat((conv=>whnf);first |refine Cd.go ?_ |refine⟨rfl,?_⟩|refine aB ⟨.inl rfl,rfl⟩ ?_ |refine aB rfl ?_ |refine⟨Nat.le_of_ble_eq_true rfl,?_⟩|refine⟨.inl rfl,?_⟩|refine⟨fun _=>⟨rfl,Nat.le_of_ble_eq_true rfl⟩,?_⟩|refine⟨fun _=>Nat.le_of_ble_eq_true rfl,?_⟩|refine⟨fun h=>Bool.noConfusion h,?_⟩|refine .inl ⟨_,fun _=>⟨aHF rfl,(by first |exact c1 |exact c2)⟩,.inl rfl,?_⟩))
 (conv=>whnf)
 exact q.h):G:=h c1 c2 ⟨q⟩
theorem Wk3 {C1 C2 C3 G Q:Prop} (c1:C1)(c2:C2)(c3:C3)(q:Q)(h:C1→C2→C3→Hd Q→G:=by
 intro c1 c2 c3 q
 (repeat((conv=>whnf);first |refine Cd.go ?_ |refine⟨rfl,?_⟩|refine aB ⟨.inl rfl,rfl⟩ ?_ |refine aB rfl ?_ |refine⟨Nat.le_of_ble_eq_true rfl,?_⟩|refine⟨.inl rfl,?_⟩|refine⟨fun _=>⟨rfl,Nat.le_of_ble_eq_true rfl⟩,?_⟩|refine⟨fun _=>Nat.le_of_ble_eq_true rfl,?_⟩|refine⟨fun h=>Bool.noConfusion h,?_⟩|refine .inl ⟨_,fun _=>⟨aHF rfl,(by first |exact c1 |exact c2 |exact c3)⟩,.inl rfl,?_⟩))
 (conv=>whnf)
 exact q.h):G:=h c1 c2 c3 ⟨q⟩
theorem Lf {G:Prop} (h:G:=by
 refine⟨[],trivial,rfl,trivial,rfl,?_⟩
 repeat' (first |exact trivial |rfl |exact .inl rfl |exact .inr rfl |exact id |exact(fun h=>Bool.noConfusion h)|refine And.intro ?_ ?_)):G:=h
theorem Cl {G:Prop} (h:G:=by repeat' (first |exact trivial |rfl |exact .inl rfl |exact .inr rfl |exact id |exact(fun h=>Bool.noConfusion h)|refine And.intro ?_ ?_)):G:=h
structure VwP(n0:Nat)(st st':St)(ids:List (Option Nat)):Prop where
 h1:st'.so=aM 0 (st'.so.map Prod.snd)
 h2:st'.nx=(st'.so.map Prod.snd).length
 h3:mO st.so ids ids (st'.so.map Prod.snd)
 h4:pE ids=true
 h5:mB 0 n0 ids
 h6:Nat.ble n0 (st'.so.map Prod.snd).length=true
 h7:vE st.sl st.so ids st'.sl
theorem Vw {n0:Nat} {st st':St} (ids:List (Option Nat))(h:VwP n0 st st' ids:=by
 refine⟨rfl,rfl,?_,rfl,?_,rfl,?_⟩
 repeat' (first |exact trivial |rfl |exact .inl rfl |exact .inr rfl |exact id |exact(fun h=>Bool.noConfusion h)|refine And.intro ?_ ?_)):View n0 st st':=bT ids h.h1 h.h2 h.h3 h.h4 h.h5 h.h6 h.h7
theorem Vq {n0:Nat} {st st':St} (ids:List (Option Nat))(h:VwP n0 st st' ids:=by
 refine⟨rfl,rfl,?_,?_,?_,?_,?_⟩
 rotate_left 4
 ·repeat' (first |exact trivial |rfl |exact .inl rfl |exact .inr rfl |exact id |exact(fun h=>Bool.noConfusion h)|refine And.intro ?_ ?_)
 ·repeat' (first |exact trivial |rfl |exact .inl rfl |exact .inr rfl |exact id |exact(fun h=>Bool.noConfusion h)|refine And.intro ?_ ?_)
 ·rfl
 ·repeat' (first |exact trivial |rfl |exact .inl rfl |exact .inr rfl |exact id |exact(fun h=>Bool.noConfusion h)|refine And.intro ?_ ?_)
 ·rfl):View n0 st st':=bT ids h.h1 h.h2 h.h3 h.h4 h.h5 h.h6 h.h7
end Go.Sk
namespace Go.Sk
open Go Go.RowKit
variable [fY]
def vQ(v:V)(K:V→Prop):Prop:=
 match v with
 | .int k n=>∃m,n=m∧K (.int k m)
 | .ptr k i c=>∃j,i=j∧K (.ptr k j c)
 | .rp es cs c=>∃r,cs=r∧K (.rp es r c)
 | .sl k off len=>∃p:Nat×Nat,(off,len)=p∧K (.sl k p.1 p.2)
 | .bool b=>∃c,b=c∧K (.bool c)
 |v=>K v
theorem bI3(v:V)(K:V→Prop):vQ v K=K v:=by
 unfold vQ
 split
 all_goals first
  |rfl
  |exact propext ⟨(by rintro ⟨_,rfl,h⟩;exact h),fun h=>⟨_,rfl,h⟩⟩
structure OB(C K:Prop):Prop where
 h:C
 k:K
theorem aYH {C K:Prop} :OB C K=(C∧K):=propext ⟨fun h=>⟨h.h,h.k⟩,fun h=>⟨h.1,h.2⟩⟩
def aWR(P:Program)(ssl:aY)(sso:aD)(snx:Nat)(ch:List (Nat×Bool))(gc:Bool)(i:I)(K:V→aD→Nat→Prop):Prop:=
 match i with
 | .ld agg n x=>match bV ssl ch x with
   | .ptr k i c=>match sso.get k with
     |some (.row es xs)=>gq gc (decide (i<xs.length)) (∃r,xs.getD i []=r∧rq (decide (c+n≤es)) (K (oB agg es r c n) sso snx))
     |_=>eC P ssl sso snx ch gc (.ld agg n x) K
   |_=>eC P ssl sso snx ch gc (.ld agg n x) K
 | .st m x y=>match ch with
   | []=>match bV ssl [] x,(bV ssl [] y).cells? with
     | .ptr k i c,some cs=>match sso.get k with
       |some (.row es xs)=>rq (decide (i<xs.length)) (rq (decide (c+m≤es)) (rq (decide (cs.length=m)) (rq (cs.all cB) (∃r,xs.getD i []=r∧K .any (sso.set k (.row es (xs.set i (aQ es r c cs)))) snx))))
       |_=>eC P ssl sso snx [] gc (.st m x y) K
     |_,_=>eC P ssl sso snx [] gc (.st m x y) K
   |g::r=>eC P ssl sso snx (g::r) gc (.st m x y) K
 | .scat x y=>match bV ssl ch x,bV ssl ch y with
   | .str a,.str b=>OB (gc=true→a.size+b.size≤9223372036854775807) (K (.str (a++b)) sso snx)
   |_,_=>eC P ssl sso snx ch gc (.scat x y) K
 | .s2b x=>match ch with
   | []=>match bV ssl [] x with
     | .str s=>OB (s.size≤9223372036854775807) (K (.sl snx 0 s.size) (sso.set snx (.bb s.data.toList)) (snx+1))
     |_=>eC P ssl sso snx [] gc (.s2b x) K
   |g::r=>eC P ssl sso snx (g::r) gc (.s2b x) K
 | .b2s x=>match tY (bV ssl ch x) with
   | .sl k off len=>match sso.get k with
     |some (.row 1 xs)=>(∃l,gA ((xs.drop off).take len)=some l∧gq gc (decide (off+len≤xs.length)) (K (.str ⟨l.toArray⟩) sso snx))∨(gA ((xs.drop off).take len)=none∧rq (!gc) (K .any sso snx))
     |_=>eC P ssl sso snx ch gc (.b2s x) K
   |_=>eC P ssl sso snx ch gc (.b2s x) K
 | .bin op x y=>eC P ssl sso snx ch gc (.bin op x y) fun v S n=>vQ v fun v=>K v S n
 | .conv k x=>eC P ssl sso snx ch gc (.conv k x) fun v S n=>vQ v fun v=>K v S n
 | .pick c a b=>eC P ssl sso snx ch gc (.pick c a b) fun v S n=>vQ v fun v=>K v S n
 | .un op x=>eC P ssl sso snx ch gc (.un op x) fun v S n=>vQ v fun v=>K v S n
 | .iaddr es x i=>eC P ssl sso snx ch gc (.iaddr es x i) fun v S n=>vQ v fun v=>K v S n
 | .slc es x a b=>eC P ssl sso snx ch gc (.slc es x a b) fun v S n=>vQ v fun v=>K v S n
 | .len x=>eC P ssl sso snx ch gc (.len x) fun v S n=>vQ v fun v=>K v S n
 | .app es by_ x y=>eC P ssl sso snx ch gc (.app es by_ x y) fun v S n=>vQ v fun v=>K v S n
 | .mx x y=>eC P ssl sso snx ch gc (.mx x y) fun v S n=>vQ v fun v=>K v S n
 | .mn x y=>eC P ssl sso snx ch gc (.mn x y) fun v S n=>vQ v fun v=>K v S n
 |i=>eC P ssl sso snx ch gc i K
theorem aNG(P:Program)(ssl:aY)(sso:aD)(snx:Nat)(ch:List (Nat×Bool))(gc:Bool)(i:I)(K:V→aD→Nat→Prop):aWR P ssl sso snx ch gc i K=eC P ssl sso snx ch gc i K:=by
 unfold aWR
 split
 ·split
  ·rename_i h1
   split
   ·rename_i h2
    simp only [eC,rdF,h1,h2,aLT]
    exact propext ⟨(by rintro ⟨h3,_,rfl,h⟩;exact⟨h3,h⟩),fun h=>⟨h.1,_,rfl,h.2⟩⟩
   ·rfl
  ·rfl
 ·split
  ·split
   ·rename_i h1 h2
    split
    ·rename_i h3
     simp only [eC,qD,wrF,h1,h2,h3,fE]
     exact propext ⟨(by rintro ⟨a,b,c,d,_,rfl,h⟩;exact⟨a,b,c,d,h⟩),fun⟨a,b,c,d,h⟩=>⟨a,b,c,d,_,rfl,h⟩⟩
    ·rfl
   ·rfl
  ·rfl
 ·split
  ·rename_i h1 h2
   simp only [eC,rdF,h1,h2,aLT,aYH,Nat.ble_eq]
  ·rfl
 ·split
  ·split
   ·rename_i h1
    simp only [eC,qD,wrF,h1,fE,aYH,Nat.ble_eq]
   ·rfl
  ·rfl
 ·split
  ·rename_i h1
   split
   ·rename_i xs h2
    simp only [eC,rdF,h1,h2]
    split
    ·rename_i l hl
     exact propext ⟨(by rintro (⟨l',e,h⟩| ⟨e,h⟩);·rw [hl] at e;cases e;exact h
                        ·rw [hl] at e;cases e),fun h=>.inl ⟨l,hl,h⟩⟩
    ·rename_i hl
     exact propext ⟨(by rintro (⟨l',e,h⟩| ⟨e,h⟩);·rw [hl] at e;cases e
                        ·exact h),fun h=>.inr ⟨hl,h⟩⟩
   ·rfl
  ·rfl
 all_goals first |rfl | (simp only [bI3])
def aX6(P:Program):List oI→St→(St→Prop)→Prop
 | [],st,K=>K st
 | ⟨d,g,i⟩::r,⟨ssl,sso,snx⟩,K=>qV ssl g fun ch gc=>aWR P ssl sso snx ch gc i fun v S n=>kY v fun v=>cZ S fun S=>cI 64 0 n fun n=>aDX ssl d ⟨ch,gc,v⟩ fun sl=>aX6 P r ⟨sl,S,n⟩ K
theorem aHA(P:Program):∀(l:List oI) (st:St) (K:St→Prop),aX6 P l st K=aBR P l st K
 | [],_,_=>rfl
 | ⟨d,g,i⟩::r,⟨ssl,sso,snx⟩,K=>by simp only [aX6,aBR,aNG,aHA P r]
def aRP(P:Program):St→Nat→Option Nat→Option (Nat×Bool)→I→(Rec→St→Prop)→Prop
 | ⟨ssl,sso,snx⟩,m,d,g,i,K=>
 cM (gsl g++aKO i) fun rds=>oU (look ssl rds) fun SL=>qV SL g fun ch gc=>cM (qZ i SL sso) fun T=>cZ (gR sso T) fun SO=>cM (gsl g++chs SL) fun G=>
  aWR P SL SO m ch gc i fun v S1 n1=>kY v fun v=>cZ S1 fun S1=>cM (wrI SL T m n1 i) fun W=>cM (W++aDI m S1) fun ids=>
   (vY T m S1&&(rD d G&&(aCH (m+16) ids&&(aEM W T&&(aEM (chT ch) G&&(aCK m T&&Nat.ble n1 (m+16)))))))=true∧aBB SO S1 W
   (aDX ssl d ⟨ch,gc,v⟩ fun sl=>cZ (uU sso S1 ids) fun so=>K ⟨m,rds++G,chT ch,d,⟨ch,gc,v⟩,T,ids,S1⟩ ⟨sl,so,snx⟩) T
theorem aRQ(P:Program)(st:St)(m:Nat)(d:Option Nat)(g:Option (Nat×Bool))(i:I)(K:Rec→St→Prop):aRP P st m d g i K=aCS P st m d g i K:=by
 obtain⟨ssl,sso,snx⟩:=st
 simp only [aRP,aCS,aNG,aGZ]
def aIU(P:Program):List oI→List Nat→St→(List Rec→St→Prop)→Prop
 | [],[],st,K=>K [] st
 | ⟨d,g,i⟩::r,m::ms,st,K=>aRP P st m d g i fun rc st'=>aIU P r ms st' fun rs st''=>K (rc::rs) st''
 |_,_,_,_=>False
theorem aIV(P:Program):∀(l:List oI) (ms:List Nat) (st:St) (K:List Rec→St→Prop),aIU P l ms st K=lZ P l ms st K
 | [],[],_,_=>rfl
 | [],_::_,_,_=>rfl
 |_::_,[],_,_=>rfl
 | ⟨d,g,i⟩::r,m::ms,st,K=>by simp only [aIU,lZ,aRQ,aIV P r]
structure aI7(P:Program)(n0:Nat)(c:RC)(st:St)(K:Ex→St→Prop):Prop where
 h:∃(α:Type) (I:α→Prop) (F:α→St) (m:α→Nat),(∃a,I a∧View n0 st (F a))∧∀a,I a→Cd P n0 c (F a) (aMY n0 I F m a K)
structure aCG {α:Type} (n0:Nat)(I:α→Prop)(F:α→St)(m:α→Nat)(a:α)(st:St):Prop where
 h:∃a',I a'∧View n0 st (F a')∧m a'<m a
def aR6 {α:Type} (n0:Nat)(I:α→Prop)(F:α→St)(m:α→Nat)(a:α)(K:Ex→St→Prop)(e:Ex)(st':St):Prop:=
 match e with
 | .normal=>aCG n0 I F m a st'
 | .exit id=>K (.exit id) st'
 | .ret=>K .ret st'
theorem aP2 {α:Type} (n0:Nat)(I:α→Prop)(F:α→St)(m:α→Nat)(a:α)(K:Ex→St→Prop):aR6 n0 I F m a K=aMY n0 I F m a K:=by
 funext e st'
 cases e with
 |normal=>exact propext ⟨fun h=>h.h,fun h=>⟨h⟩⟩
 |_=>rfl
structure qF(P:Program)(n0:Nat)(rvs:List RV)(res:V)(ob1:List Obj)(e:Ex)(st:St):Prop where
 h:fU P n0 rvs res ob1 e st
theorem aMZ(P:Program)(n0:Nat)(rvs:List RV)(res:V)(ob1:List Obj):qF P n0 rvs res ob1=fU P n0 rvs res ob1:=by
 funext e st
 exact propext ⟨fun h=>h.h,fun h=>⟨h⟩⟩
theorem aJ(ks:List Ct) {P:Program} {f:FuncId} {fn:Func} {rc:RC} {rvs:List RV} {ob0 ob1:List Obj} {args:List V} {res:V} (hf:P.funcs[f]? =some fn)(hb0:fn.body.isSome=true)
 (hrv:fn.results.toList.mapM (jA P)=some rvs) (hres:aHN P fn.ntmps (aDR args 0 (jT rvs)) ks (fn.body.getD .skip)=some rc) (hn:Nat.ble args.length fn.ntmps=true)
 (hK:cI 16 0 ob0.length fun n0=>Cd P n0 rc ⟨eV 0 args,aM 0 ob0,n0⟩ (qF P n0 rvs res ob1)):aN P f ob0 args res ob1:=
 aF ks hf hb0 hrv hres hn (by simpa only [aMZ] using hK)
def CdQ(P:Program)(n0:Nat)(rc:RC)(st:St)(K:Ex→St→Prop):Prop:=
 match rc with
 | .reg l kill=>aX6 P l st fun | ⟨sl0,so0,nx0⟩=>eR kill sl0 fun sl=>K .normal ⟨sl,so0,nx0⟩
 | .dreg b0 n l kill an ms=>match Nat.ble st.nx b0 with
   |true=>aIU P l ms ⟨st.sl,st.so,n⟩ fun |recs,⟨sl0,so0,nx0⟩=>lY recs an 0=true∧eR kill (look sl0 (pU sl0)) fun sl=>K .normal ⟨sl,so0,nx0⟩
   |false=>aIU P l (shM st.nx ms) ⟨st.sl,st.so,n+st.nx⟩ fun |recs,⟨sl0,so0,nx0⟩=>lY recs an 0=true∧eR kill (look sl0 (pU sl0)) fun sl=>K .normal ⟨sl,so0,nx0⟩
 | .loop c=>aI7 P n0 c st K
 |rc=>CdB P n0 rc st K
theorem Cd.gq {P:Program} {n0:Nat} {rc:RC} {st:St} {K:Ex→St→Prop} (h:CdQ P n0 rc st K):Cd P n0 rc st K:=by
 cases rc with
 |reg l k=>exact Cd.reg (by rw [←aHA];exact h)
 |dreg b0 n l kill an ms=>
  unfold CdQ at h
  simp only [aIV] at h
  exact Cd.go h
 |loop c=>exact Cd.loop h.h
 |_=>exact Cd.go h
omit [fY] in
theorem wI {n:Int} (h: -9223372036854775808≤n)(h':n<9223372036854775808):IntKind.i64.wrap n=n:=by rw [IntKind.wrap_i64];omega
omit [fY] in
theorem aA5(x:Nat)(h:x<9223372036854775808):(BitVec.ofInt 64 (x:Int)).toNat=x:=by
 rw [BitVec.toNat_ofInt];omega
omit [fY] in
theorem bE2 {x y:Nat} (hx:x<9223372036854775808)(hy:y<9223372036854775808):eX .and .i64 (x:Int) (y:Int)=((x &&& y:Nat):Int):=by
 have h:=Nat.and_le_left (n:=x) (m:=y)
 show IntKind.i64.wrap (((BitVec.ofInt 64 (x:Int)&&& BitVec.ofInt 64 (y:Int)).toNat:Nat):Int)=_
 rw [BitVec.toNat_and,aA5 x hx,aA5 y hy]
 exact wI (by omega) (by omega)
omit [fY] in
theorem bOr {x y:Nat} (hx:x<9223372036854775808)(hy:y<9223372036854775808):eX .or .i64 (x:Int) (y:Int)=((x ||| y:Nat):Int):=by
 have h:=Nat.or_lt_two_pow (n:=63) hx hy
 show IntKind.i64.wrap (((BitVec.ofInt 64 (x:Int)||| BitVec.ofInt 64 (y:Int)).toNat:Nat):Int)=_
 rw [BitVec.toNat_or,aA5 x hx,aA5 y hy]
 exact wI (by omega) (by omega)
omit [fY] in
theorem bIM {x y:Nat} (hx:x<9223372036854775808)(hy:y<9223372036854775808):eX .xor .i64 (x:Int) (y:Int)=((x ^^^ y:Nat):Int):=by
 have h:=Nat.xor_lt_two_pow (n:=63) hx hy
 show IntKind.i64.wrap (((BitVec.ofInt 64 (x:Int)^^^ BitVec.ofInt 64 (y:Int)).toNat:Nat):Int)=_
 rw [BitVec.toNat_xor,aA5 x hx,aA5 y hy]
 exact wI (by omega) (by omega)
omit [fY] in
theorem bE3 {x b:Nat} (hx:x<9223372036854775808)(hy:(OfNat.ofNat b:Nat)<9223372036854775808):eX .and .i64 (x:Int) (OfNat.ofNat b:Int)=((x &&& (OfNat.ofNat b:Nat):Nat):Int):=bE2 hx hy
omit [fY] in
theorem bIL {x b:Nat} (hx:x<9223372036854775808)(hy:(OfNat.ofNat b:Nat)<9223372036854775808):eX .or .i64 (x:Int) (OfNat.ofNat b:Int)=((x ||| (OfNat.ofNat b:Nat):Nat):Int):=bOr hx hy
omit [fY] in
theorem bKE {a k:Nat} (hk:k<63)(h:a*2^k<9223372036854775808):IntKind.i64.wrap ((a:Int)*2^min (k:Int).toNat IntKind.i64.bits)=((a*2^k:Nat):Int):=by
 have e:min (k:Int).toNat IntKind.i64.bits=k:=by show min k 64=k;omega
 rw [e,show(a:Int)*2^k=((a*2^k:Nat):Int) by simp]
 exact wI (by omega) (by omega)
omit [fY] in
theorem bKD {k:Nat} (hk:k<62):IntKind.i64.wrap (1*2^min (k:Int).toNat IntKind.i64.bits)=((2^k:Nat):Int):=by
 have h:2^k<2^62:=Nat.pow_lt_pow_right (by omega) hk
 have :=bKE (a:=1) (k:=k) (by omega) (by omega)
 rwa [Nat.one_mul] at this
omit [fY] in
theorem bKF {a k:Nat} (hk:k≤64):(a:Int).fdiv (2^min (k:Int).toNat IntKind.i64.bits)=((a/2^k:Nat):Int):=by
 have e:min (k:Int).toNat IntKind.i64.bits=k:=by show min k 64=k;omega
 have e2:(2:Int)^k=((2^k:Nat):Int):=by simp
 rw [e,e2,Int.fdiv_eq_ediv_of_nonneg _ (Int.natCast_nonneg _)]
 exact(Int.natCast_ediv _ _).symm
omit [fY] in
theorem divN {a b:Nat} (ha:a<9223372036854775808):IntKind.i64.wrap ((a:Int).tdiv (b:Int))=((a/b:Nat):Int):=by
 have h:=Nat.div_le_self a b
 rw [show(a:Int).tdiv (b:Int)=((a/b:Nat):Int) by rw [Int.tdiv_eq_ediv_of_nonneg (by omega)];exact(Int.natCast_ediv _ _).symm]
 generalize a/b=c at *
 exact wI (by omega) (by omega)
omit [fY] in
theorem bIO {a b:Nat} (ha:a<9223372036854775808):IntKind.i64.wrap ((a:Int).tdiv (OfNat.ofNat b:Int))=((a/(OfNat.ofNat b:Nat):Nat):Int):=divN ha
omit [fY] in
theorem bEO {a b:Nat} :(a:Int).tmod (b:Int)=((a%b:Nat):Int):=by
 rw [Int.tmod_eq_emod_of_nonneg (by omega)];exact(Int.natCast_emod _ _).symm
omit [fY] in
theorem bJ0 {a b:Nat} :(a:Int).tmod (OfNat.ofNat b:Int)=((a%(OfNat.ofNat b:Nat):Nat):Int):=bEO
omit [fY] in
theorem wA {i j:Nat} (h:i+j<9223372036854775807):IntKind.i64.wrap ((i:Int)+(j:Int))=((i+j:Nat):Int):=by rw [wI (by omega) (by omega)];omega
omit [fY] in
theorem wAL {i b:Nat} (h:i+(OfNat.ofNat b:Nat)<9223372036854775807):IntKind.i64.wrap ((i:Int)+(OfNat.ofNat b:Int))=((i+(OfNat.ofNat b:Nat):Nat):Int):=wA h
omit [fY] in
theorem wLA {i b:Nat} (h:(OfNat.ofNat b:Nat)+i<9223372036854775807):IntKind.i64.wrap ((OfNat.ofNat b:Int)+(i:Int))=(((OfNat.ofNat b:Nat)+i:Nat):Int):=wA h
omit [fY] in
theorem wM {i j:Nat} (h:i*j<9223372036854775807):IntKind.i64.wrap ((i:Int)*(j:Int))=((i*j:Nat):Int):=by rw [←Int.natCast_mul];exact wI (by omega) (by omega)
omit [fY] in
theorem wML {i b:Nat} (h:i*(OfNat.ofNat b:Nat)<9223372036854775807):IntKind.i64.wrap ((i:Int)*(OfNat.ofNat b:Int))=((i*(OfNat.ofNat b:Nat):Nat):Int):=wM h
omit [fY] in
theorem wD {i j:Nat} (h:j≤i)(h2:i<9223372036854775807):IntKind.i64.wrap ((i:Int)- (j:Int))=((i-j:Nat):Int):=by rw [wI (by omega) (by omega)];omega
omit [fY] in
theorem wP {i:Nat} (h:i<9223372036854775807):IntKind.i64.wrap (((i+1:Nat):Int)-1)=(i:Int):=by rw [wI (by omega) (by omega)];omega
omit [fY] in
theorem wDL {i b:Nat} (h:(OfNat.ofNat b:Nat)≤i)(h2:i<9223372036854775807):IntKind.i64.wrap ((i:Int)- (OfNat.ofNat b:Int))=((i- (OfNat.ofNat b:Nat):Nat):Int):=wD h h2
omit [fY] in
theorem wLD {i b:Nat} (h:i≤(OfNat.ofNat b:Nat))(h2:(OfNat.ofNat b:Nat)<9223372036854775807):IntKind.i64.wrap ((OfNat.ofNat b:Int)- (i:Int))=(((OfNat.ofNat b:Nat)-i:Nat):Int):=wD h h2
omit [fY] in
theorem ixN {n:Nat} :0+(n:Int).toNat=n:=by rw [Nat.zero_add];rfl
omit [fY] in
theorem ixL {n:Nat} :0+(OfNat.ofNat n:Int).toNat=(OfNat.ofNat n:Nat):=ixN
omit [fY] in
theorem mxN {a b:Nat} :max (a:Int) (b:Int)=((max a b:Nat):Int):=by omega
omit [fY] in
theorem mxL {a b:Nat} :max (a:Int) (OfNat.ofNat b:Int)=((max a (OfNat.ofNat b:Nat):Nat):Int):=mxN
omit [fY] in
theorem mnN {a b:Nat} :min (a:Int) (b:Int)=((min a b:Nat):Int):=by omega
omit [fY] in
theorem mnL {a b:Nat} :min (a:Int) (OfNat.ofNat b:Int)=((min a (OfNat.ofNat b:Nat):Nat):Int):=mnN
omit [fY] in
theorem Nz {a b:Int} (h:a=b:=by first |with_reducible exact wP (by omega)|with_reducible exact wAL (by omega)|with_reducible exact wA (by omega)|with_reducible exact wDL (by omega) (by omega)|with_reducible exact wD (by omega) (by omega)|with_reducible exact wML (by omega)|with_reducible exact bIO (by omega)|with_reducible exact bJ0 |with_reducible exact bE2 (by omega) (by omega)|with_reducible exact bE3 (by omega) (by omega)|with_reducible exact bOr (by omega) (by omega)|with_reducible exact bIL (by omega) (by omega)|with_reducible exact bKD (by omega)|with_reducible exact wM (by omega)|with_reducible exact divN (by omega)|with_reducible exact bEO |with_reducible exact wLA (by omega)|with_reducible exact wLD (by omega) (by omega)|with_reducible exact mxN |with_reducible exact mxL |with_reducible exact mnN |with_reducible exact mnL |with_reducible exact bKF (by omega)|with_reducible exact bIM (by omega) (by omega)|with_reducible exact wI (by omega) (by omega)):a=b:=h
theorem eqT {a b:Int} (h:a=b):(a==b)=true:=beq_iff_eq.2 h
theorem eqF {a b:Int} (h:a≠b):(a==b)=false:=beq_eq_false_iff_ne.2 h
theorem neT {a b:Int} (h:a≠b):(a != b)=true:=bne_iff_ne.2 h
theorem neF {a b:Int} (h:a=b):(a != b)=false:=bne_eq_false_iff_eq.2 h
theorem deT {p:Prop} [Decidable p](h:p):decide p=true:=decide_eq_true h
theorem deF {p:Prop} [Decidable p](h:¬p):decide p=false:=decide_eq_false h
theorem Bz {a b:Bool} (h:a=b:=by first |with_reducible exact deT (by omega)|with_reducible exact deF (by omega)|with_reducible exact eqT (by omega)|with_reducible exact eqF (by omega)|with_reducible exact neT (by omega)|with_reducible exact neF (by omega)):a=b:=h
theorem aYJ:∀n:Nat,gA (List.replicate n [V.int .u8 0])=some (List.replicate n 0)
 |0=>rfl
 |n+1=>by rw [List.replicate_succ,gA,aYJ n];rfl
theorem bAW {n m:Nat} (h:n≤m):gA (List.take n (List.drop 0 (List.replicate m [V.int .u8 0])))=some (List.replicate n 0):=by
 rw [List.drop_zero,List.take_replicate,Nat.min_eq_left h,aYJ]
theorem asI {a b:Int} (h:a=b):a=b:=h
theorem Nl {a b:Int} (h:a=b:=by simp;rfl):a=b:=h
theorem Np {o l l':Nat} (h:l=l':=by simp;rfl):(o,l)=(o,l'):=by rw [h]
theorem aUR {α:Type} {xs:List α} {n:Nat} (h:xs.length≤n):List.take n (List.drop 0 xs)=xs:=by rw [List.drop_zero,List.take_of_length_le h]
theorem Sd {p:Prop} (h:p:=by(fail_if_success exact True.intro);first |omega |exact aUR (by first |omega | (simp;done)| (simp;omega))| (simp(disch:=omega) [wI,List.take_of_length_le];done)| (simp(disch:=omega) only [wI];omega)| (simp(disch:=omega) [wI,List.take_of_length_le];omega)):p:=h
theorem bD9(x:UInt8):0≤(x.toNat:Int)∧(x.toNat:Int)<256:=by have :=x.toNat_lt;omega
theorem aLK {x:Bool} {A B:Prop} (h:x=true)(a:A):cq x A B:=by rw [aN6];exact⟨fun _=>a,fun e=>by rw [h] at e;cases e⟩
theorem aLJ {x:Bool} {A B:Prop} (h:x=false)(b:B):cq x A B:=by rw [aN6];exact⟨(fun e=>by rw [h] at e;cases e),fun _=>b⟩
theorem aRM {p:Prop} [Decidable p] {A B:Prop} (h:p)(a:A):cq (decide p) A B:=aLK (decide_eq_true h) a
theorem aRL {p:Prop} [Decidable p] {A B:Prop} (h:¬p)(b:B):cq (decide p) A B:=aLJ (decide_eq_false h) b
theorem aGQ {P:Program} {f:FuncId} {o o1:List Obj} {a b:List V} {r:V} (h:aN P f o a r o1)(e:b=a):aN P f o b r o1:=e▸h
theorem aUL {xs:List (List V)} {i n:Nat} {r:List V} (h:xs.getD n []=r)(e:i=n):xs.getD i []=r:=by rw [e,h]
theorem aLS {l:List Nat} {K:List Nat→Prop} (h:cM l K):K l:=by rwa [eT] at h
theorem ucQ {P:Program} {f:FuncId} {args:List V} {S:aD} {m:Nat} {K:V→aD→Nat→Prop} (h:cM (aJJ S args) fun L=>∃ob0,oZ S L L=some ob0∧∃ob1 res,aN P f ob0 (args.map (arg2 L)) res ob1∧jJ L=true∧Nat.ble L.length ob1.length=true∧Nat.ble ob1.length (L.length+16)=true∧K (aBT L m res) (lN S L (ob1.map (lK L m)) m) (m+16)):nD P f args S m K:=by
 obtain⟨o0,e,o1,r,h1,h2⟩:=aLS h
 exact⟨_,o0,o1,r,h1,lE e,h2⟩
theorem aVX {a b:V} {l m:List V} (h:a=b)(k:l=m):a::l=b::m:=by rw [h,k]
theorem bAV {l m:List V} (h:l=m):V.agg l=V.agg m:=by rw [h]
theorem int_eq {k:IntKind} {n m:Int} (h:n=m):V.int k n=V.int k m:=by rw [h]
theorem aVV {n m:Bool} (h:n=m):V.bool n=V.bool m:=by rw [h]
theorem bBQ {k:Nat} {b:Bool} {n m:List (List V)} (h:n=m):V.lst k b n=V.lst k b m:=by rw [h]
theorem bI1 {k a b c d:Nat} (h:a=c)(h':b=d):V.sl k a b=V.sl k c d:=by rw [h,h']
theorem Ag {a b:List V} (h:a=b:=by
 repeat' (first |refine aVX ?_ ?_ |rfl |refine bAV ?_ |refine int_eq ?_ |refine aVV ?_ |refine bBQ ?_ |refine bI1 ?_ ?_ |exact Sd)):a=b:=h
theorem Cz {G:Prop} (h:G:=by repeat' (first |exact trivial |rfl |exact .inl rfl |exact .inr rfl |exact id |exact(fun h=>Bool.noConfusion h)|refine And.intro ?_ ?_ |exact Sd | ((conv=>whnf);exact Sd))):G:=h
theorem Lz {G:Prop} (h:G:=by
 (try refine qF.mk ?_)
 (repeat((conv=>whnf);first |refine And.intro (fun _=>⟨rfl,Nat.le_of_ble_eq_true rfl⟩) ?_ |refine And.intro (fun _=>Nat.le_of_ble_eq_true rfl) ?_ |refine And.intro (Nat.le_of_ble_eq_true rfl) ?_ |refine And.intro (fun _=>Sd) ?_))
 (conv=>whnf)
 refine⟨[],trivial,rfl,trivial,rfl,?_⟩
 repeat' (first |exact trivial |rfl |exact .inl rfl |exact .inr rfl |exact id |exact(fun h=>Bool.noConfusion h)|refine And.intro ?_ ?_ |exact Sd | ((conv=>whnf);exact Sd))):G:=h
theorem Vz {n0:Nat} {st st':St} (ids:List (Option Nat))(h:VwP n0 st st' ids:=by
 refine⟨rfl,rfl,?_,rfl,?_,rfl,?_⟩
 repeat' (first |exact trivial |rfl |exact .inl rfl |exact .inr rfl |exact id |exact(fun h=>Bool.noConfusion h)|refine And.intro ?_ ?_ |exact Sd | ((conv=>whnf);exact Sd))):View n0 st st':=bT ids h.h1 h.h2 h.h3 h.h4 h.h5 h.h6 h.h7
theorem Wx {G Q:Prop} (q:Q)(h:Hd Q→G:=by
 intro q
 (repeat((conv=>whnf);(fail_if_success refine qF.mk ?_);(fail_if_success refine aI7.mk ?_);(fail_if_success refine aCG.mk ?_);first |refine Cd.gq ?_ |refine OB.mk Sd ?_ |refine OB.mk (fun _=>Sd) ?_ |refine Exists.intro _ (And.intro Nz ?_)|refine Exists.intro _ (And.intro ixN ?_)|refine Exists.intro _ (And.intro ixL ?_)|refine Exists.intro _ (And.intro (asI (by assumption)) ?_)|refine Or.inl (Exists.intro _ (And.intro (bAW Sd) ?_))|refine Or.inl (Exists.intro _ (And.intro (by assumption) ?_))|refine Exists.intro true (And.intro rfl ?_)|refine Exists.intro false (And.intro rfl ?_)|refine Exists.intro _ (And.intro Bz ?_)|refine Exists.intro _ (And.intro Nl ?_)|refine Exists.intro _ (And.intro Np ?_)|refine Exists.intro _ (And.intro (aUL (by assumption) (by omega)) ?_)|refine Exists.intro _ (And.intro rfl ?_)|refine And.intro rfl ?_ |refine aB rfl ?_ |refine aB (bD9 _) ?_ |refine aB Sd ?_ |refine aH (fun _=>Sd) ?_ |refine .inl ⟨.bool false,fun h=>Bool.noConfusion (show false=true from h),.inr rfl,?_⟩|refine .inl ⟨_,fun _=>⟨aHF rfl,(by assumption)⟩,.inl rfl,?_⟩| (refine .inr ⟨fun _=>ucQ ?_,(by intro h;cases h)⟩;(conv=>whnf);refine Exists.intro _ (And.intro rfl ?_);refine⟨_,_,(by assumption),rfl,(by rfl),(by rfl),?_⟩)|refine aLK (by assumption) ?_ |refine aLJ (by assumption) ?_ |refine aRM (by omega) ?_ |refine aRL (by omega) ?_ |refine aLK Sd ?_ |refine aLJ Sd ?_ |refine bA Sd Sd ?_ |refine aFU Sd Sd Sd Sd ?_ |refine And.intro (Nat.le_of_ble_eq_true rfl) ?_ |refine And.intro (.inl rfl) ?_ |refine And.intro (fun _=>⟨rfl,Nat.le_of_ble_eq_true rfl⟩) ?_ |refine And.intro (fun _=>Nat.le_of_ble_eq_true rfl) ?_ |refine And.intro (fun h=>Bool.noConfusion h) ?_ |refine And.intro (fun _=>Sd) ?_ |refine And.intro Sd ?_ |refine .inl ⟨_,fun _=>⟨aHF rfl,aGQ (by assumption) Ag⟩,.inl rfl,?_⟩))
 (conv=>whnf)
 exact q.h):G:=h ⟨q⟩
theorem Wz {G:Prop} (h:G:=by
 refine Wx ?_
 exact Lz):G:=h
theorem Wx2 {C1 C2 G Q:Prop} (c1:C1)(c2:C2)(q:Q)(h:C1→C2→Hd Q→G:=by
 intro c1 c2 q
 (repeat((conv=>whnf);(fail_if_success refine qF.mk ?_);(fail_if_success refine aI7.mk ?_);(fail_if_success refine aCG.mk ?_);first |refine Cd.gq ?_ |refine OB.mk Sd ?_ |refine OB.mk (fun _=>Sd) ?_ |refine Exists.intro _ (And.intro Nz ?_)|refine Exists.intro _ (And.intro ixN ?_)|refine Exists.intro _ (And.intro ixL ?_)|refine Exists.intro _ (And.intro (asI (by assumption)) ?_)|refine Or.inl (Exists.intro _ (And.intro (bAW Sd) ?_))|refine Or.inl (Exists.intro _ (And.intro (by assumption) ?_))|refine Exists.intro true (And.intro rfl ?_)|refine Exists.intro false (And.intro rfl ?_)|refine Exists.intro _ (And.intro Bz ?_)|refine Exists.intro _ (And.intro Nl ?_)|refine Exists.intro _ (And.intro Np ?_)|refine Exists.intro _ (And.intro (aUL c1 (by omega)) ?_)|refine Exists.intro _ (And.intro (aUL c2 (by omega)) ?_)|refine Exists.intro _ (And.intro (aUL (by assumption) (by omega)) ?_)|refine Exists.intro _ (And.intro rfl ?_)|refine And.intro rfl ?_ |refine aB rfl ?_ |refine aB (bD9 _) ?_ |refine aB Sd ?_ |refine aH (fun _=>Sd) ?_ |refine .inl ⟨.bool false,fun h=>Bool.noConfusion (show false=true from h),.inr rfl,?_⟩|refine .inl ⟨_,fun _=>⟨aHF rfl,(by assumption)⟩,.inl rfl,?_⟩| (refine .inr ⟨fun _=>ucQ ?_,(by intro h;cases h)⟩;(conv=>whnf);refine Exists.intro _ (And.intro rfl ?_);refine⟨_,_,(by assumption),rfl,(by rfl),(by rfl),?_⟩)|refine aLK (by assumption) ?_ |refine aLJ (by assumption) ?_ |refine aRM (by omega) ?_ |refine aRL (by omega) ?_ |refine aLK Sd ?_ |refine aLJ Sd ?_ |refine bA Sd Sd ?_ |refine aFU Sd Sd Sd Sd ?_ |refine And.intro (Nat.le_of_ble_eq_true rfl) ?_ |refine And.intro (.inl rfl) ?_ |refine And.intro (fun _=>⟨rfl,Nat.le_of_ble_eq_true rfl⟩) ?_ |refine And.intro (fun _=>Nat.le_of_ble_eq_true rfl) ?_ |refine And.intro (fun h=>Bool.noConfusion h) ?_ |refine And.intro (fun _=>Sd) ?_ |refine And.intro Sd ?_ |refine .inl ⟨_,fun _=>⟨aHF rfl,aGQ (by assumption) Ag⟩,.inl rfl,?_⟩))
 (conv=>whnf)
 exact q.h):G:=h c1 c2 ⟨q⟩
end Go.Sk
namespace Go.Sk
open Go Go.RowKit
variable [fY]
def sR:RC→List Nat
 | .reg l _=>mS l
 | .dreg _ _ l _ _ _=>mS l
 | .seq a b=>sR a++sR b
 | .cut a b=>sR a++sR b
 | .regc a b _=>mS a++mS b
 | .regv a _ b _=>mS a++mS b
 | .cond _ a b=>sR a++sR b
 | .block _ c=>sR c
 | .loop c=>sR c
 | .uloop c=>sR c
 |_=> []
def aLY(ds:List Nat):aY→aY
 | []=> []
 | (d,⟨_,g,v⟩)::r=>match gE d ds with
   |true=>aLY ds r
   |false=>(d,⟨[],g,v⟩)::aLY ds r
def aLZ(L ds:List Nat):aY→aY
 | []=> []
 | (d,⟨_,g,v⟩)::r=>match gE d ds with
   |true=>aLZ L ds r
   |false=>(d,⟨[],g,arg2 L v⟩)::aLZ L ds r
def idB:List Nat→Nat→Bool
 | [],_=>true
 |k::r,j=>match Nat.beq k j with
  |true=>idB r (j+1)
  |false=>false
def bBO(L ds:List Nat)(sl:aY):aY:=match idB L 0 with
 |true=>aLY ds sl
 |false=>aLZ L ds sl
def aJH {α:Type} :List (Nat×α)→List Nat
 | []=> []
 | (k,_)::r=>k::aJH r
def bAE:List (Nat×V)→aY→aY
 | [],l=>l
 | (d,v)::r,l=>(d,⟨[],true,v⟩)::bAE r l
def bAD:List (Nat×Obj)→aD→aD
 | [],S=>S
 | (k,o)::r,S=>bAD r (S.set k o)
def aYY(L:List Nat):aD→Nat→aD
 | [],_=> []
 | (_,o)::r,j=>(j,aL6 L o)::aYY L r (j+1)
def bES(S:aD):aD:=match idB (aJH S) 0 with
 |true=>S
 |false=>aYY (aJH S) S 0
def bEM(st:St)(os:List (Nat×Obj)):aD:=bAD os (bES st.so)
def lpF(c:RC)(st:St)(us:List (Nat×V))(os:List (Nat×Obj)):St:=
 ⟨bAE us (bBO (aJH st.so) (sR c++aJH us) st.sl),bEM st os,(bEM st os).length⟩
def aS2(st:St)(K:St→Prop):Prop:=oU st.sl fun sl=>cZ st.so fun so=>cI 64 0 st.nx fun nx=>K ⟨sl,so,nx⟩
theorem aS3(st:St)(K:St→Prop):aS2 st K=K st:=by unfold aS2;rw [kX,eB,dV]
theorem Lp {P:Program} {n0:Nat} {c:RC} {st:St} {K:Ex→St→Prop} {α:Type} (I:α→Prop)(us:α→List (Nat×V))(os:α→List (Nat×Obj))(m:α→Nat)(a0:α)(h0:I a0)(hv:View n0 st (lpF c st (us a0) (os a0)))
 (hb:∀a,I a→aS2 (lpF c st (us a) (os a)) fun st'=>Cd P n0 c st' (aR6 n0 I (fun a=>lpF c st (us a) (os a)) m a K)):aI7 P n0 c st K:=
 ⟨α,I,_,m,⟨a0,h0,hv⟩,fun a ha=>by have :=hb a ha;rw [aS3,aP2] at this;exact this⟩
theorem Vr {n0:Nat} {st st':St} (ids:List (Option Nat))(h:VwP n0 st st' ids:=by
 refine⟨rfl,rfl,?_,?_,?_,?_,?_⟩
 rotate_left 4
 ·repeat' (first |exact trivial |rfl |exact .inl rfl |exact .inr rfl |exact id |exact(fun h=>Bool.noConfusion h)|refine And.intro ?_ ?_ |exact Sd | ((conv=>whnf);exact Sd))
 ·repeat' (first |exact trivial |rfl |exact .inl rfl |exact .inr rfl |exact id |exact(fun h=>Bool.noConfusion h)|refine And.intro ?_ ?_ |exact Sd | ((conv=>whnf);exact Sd))
 ·rfl
 ·repeat' (first |exact trivial |rfl |exact .inl rfl |exact .inr rfl |exact id |exact(fun h=>Bool.noConfusion h)|refine And.intro ?_ ?_ |exact Sd | ((conv=>whnf);exact Sd))
 ·rfl):View n0 st st':=bT ids h.h1 h.h2 h.h3 h.h4 h.h5 h.h6 h.h7
theorem Va {n0:Nat} {st st':St} (h:View n0 st st':=by first |exact Vz [] |exact Vr [some _] |exact Vr [some _,some _] |exact Vr [some _,some _,some _] |exact Vr [some _,some _,some _,some _] |exact Vr [some _,some _,some _,some _,some _] |exact Vr [some _,some _,some _,some _,some _,some _]):View n0 st st':=h
theorem iN {p:Prop} [Decidable p] {A B:Prop} (h:p→A)(k:¬p→B):cq (decide p) A B:=aC (fun e=>h (of_decide_eq_true e)) (fun e=>k (of_decide_eq_false e))
theorem bB2 {a b:Int} {A B:Prop} (h:a=b→A)(k:a≠b→B):cq (a==b) A B:=aC (fun e=>h (eq_of_beq e)) (fun e=>k (beq_eq_false_iff_ne.1 e))
theorem aVZ {a b:Int} {A B:Prop} (h:a≠b→A)(k:a=b→B):cq (a != b) A B:=aC (fun e=>h (bne_iff_ne.1 e)) (fun e=>k (bne_eq_false_iff_eq.1 e))
theorem Le {α:Type} {n0:Nat} {I:α→Prop} {F:α→St} {m:α→Nat} {a:α} {st:St} (b:α)(hI:I b:=by first |exact Sd | (dsimp only;exact Sd))(hv:View n0 st (F b):=by exact Va)(hm:m b<m a:=by first |exact Sd | (dsimp only;exact Sd)):aCG n0 I F m a st:=⟨b,hI,hv,hm⟩
end Go.Sk
namespace Go.Sk
open Go Go.RowKit
variable [fY]
theorem Lo {G:Prop} (h:G:=by
 (try refine qF.mk ?_)
 (repeat((conv=>whnf);first |refine And.intro (fun _=>⟨rfl,Nat.le_of_ble_eq_true rfl⟩) ?_ |refine And.intro (fun _=>Nat.le_of_ble_eq_true rfl) ?_ |refine And.intro (Nat.le_of_ble_eq_true rfl) ?_ |refine And.intro (fun _=>Sd) ?_))
 (conv=>whnf)
 refine⟨[some 0],?_,rfl,?_,rfl,?_⟩
 all_goals(repeat' (first |exact trivial |rfl |exact .inl rfl |exact .inr rfl |exact id |exact(fun h=>Bool.noConfusion h)|refine And.intro ?_ ?_ |exact Sd | ((conv=>whnf);exact Sd)))):G:=h
theorem mkT {b n:Nat} (h:b*n≤1000000)(h0:n≤1000000):mkB b (n:Int)=true:=by
 rw [aM0 (by omega)]
 have e:(b:Int)*(n:Int)=((b*n:Nat):Int):=by simp
 rw [e]
 omega
theorem Wo {G:Prop} (h:G:=by
 refine Wx ?_
 exact Lo):G:=h
end Go.Sk
namespace Go.Sk
open Go Go.RowKit
variable [fY]
def aL4(k:Nat)(l:List Nat)(K:List Nat→Prop):Prop:=match gE k l with
 |true=>K l
 |false=>cM (l++ [k]) K
theorem aVM(k:Nat)(l:List Nat)(K:List Nat→Prop):aL4 k l K=K (addN k l):=by
 unfold aL4 addN
 cases gE k l with
 |true=>rfl
 |false=>exact eT _ _
def aSW:V→List Nat→(List Nat→Prop)→Prop
 | .ptr k _ _,l,K=>cI 64 0 k fun k=>aL4 k l K
 | .sl k _ _,l,K=>cI 64 0 k fun k=>aL4 k l K
 | .slx k _ _,l,K=>cI 64 0 k fun k=>aL4 k l K
 | .slk k _ _ _,l,K=>cI 64 0 k fun k=>aL4 k l K
 | .mp k,l,K=>cI 64 0 k fun k=>aL4 k l K
 |_,l,K=>K l
theorem aH6(v:V)(l:List Nat)(K:List Nat→Prop):aSW v l K=K (nm1 v l):=by
 cases v <;> simp only [aSW,nm1,dV,aVM]
def aB1:List V→List Nat→(List Nat→Prop)→Prop
 | [],l,K=>K l
 |v::r,l,K=>aSW v l fun l=>aB1 r l K
theorem uP:∀(cs:List V) (l:List Nat) (K:List Nat→Prop),aB1 cs l K=K (aJS cs l)
 | [],_,_=>rfl
 |v::r,l,K=>by simp only [aB1,aJS,aH6,uP r]
def aQ3:List V→List Nat→(List Nat→Prop)→Prop
 | [],l,K=>K l
 | .agg cs::r,l,K=>aB1 cs l fun l=>aQ3 r l K
 | .fn _ cs::r,l,K=>aB1 cs l fun l=>aQ3 r l K
 |v::r,l,K=>aSW v l fun l=>aQ3 r l K
theorem aNS:∀(cs:List V) (l:List Nat) (K:List Nat→Prop),aQ3 cs l K=K (nm2.nmT cs l)
 | [],_,_=>rfl
 |v::r,l,K=>by cases v <;> simp only [aQ3,nm2.nmT,aH6,uP,aNS r]
def bBX:V→List Nat→(List Nat→Prop)→Prop
 | .agg cs,l,K=>aB1 cs l K
 | .fn _ cs,l,K=>aB1 cs l K
 | .tup cs,l,K=>aQ3 cs l K
 |v,l,K=>aSW v l K
theorem aX1(v:V)(l:List Nat)(K:List Nat→Prop):bBX v l K=K (nm2 v l):=by
 cases v <;> simp only [bBX,nm2,aH6,uP,aNS]
def aNR:List V→List Nat→(List Nat→Prop)→Prop
 | [],l,K=>K l
 |v::r,l,K=>bBX v l fun l=>aNR r l K
theorem aJT:∀(cs:List V) (l:List Nat) (K:List Nat→Prop),aNR cs l K=K (aSX cs l)
 | [],_,_=>rfl
 |v::r,l,K=>by simp only [aNR,aSX,aX1,aJT r]
def aQ2(S:aD):List Nat→List Nat→(List Nat→Prop)→Prop
 | [],l,K=>K l
 |k::r,l,K=>match S.get k with
  |some (.box cs)=>aB1 cs l fun l=>aQ2 S r l K
  |_=>aQ2 S r l K
theorem uQ(S:aD):∀(r l:List Nat) (K:List Nat→Prop),aQ2 S r l K=K (nmB S r l)
 | [],_,_=>rfl
 |k::r,l,K=>by
  rw [aQ2,nmB]
  cases S.get k with
  |none=>exact uQ S r l K
  |some o=>
   cases o with
   |box cs=>
    dsimp only
    rw [uP,uQ S r]
   |_=>exact uQ S r l K
def aSO(S:aD)(args:List V)(K:List Nat→Prop):Prop:=aNR args [] fun l=>aQ2 S l l fun l=>aQ2 S l l K
theorem aSP(S:aD)(args:List V)(K:List Nat→Prop):aSO S args K=K (aJJ S args):=by
 unfold aSO aJJ
 rw [aJT,uQ,uQ]
theorem ucR {P:Program} {f:FuncId} {args:List V} {S:aD} {m:Nat} {K:V→aD→Nat→Prop} (h:aSO S args fun L=>∃ob0,oZ S L L=some ob0∧∃ob1 res,aN P f ob0 (args.map (arg2 L)) res ob1∧jJ L=true∧Nat.ble L.length ob1.length=true∧Nat.ble ob1.length (L.length+16)=true∧K (aBT L m res) (lN S L (ob1.map (lK L m)) m) (m+16)):nD P f args S m K:=by
 rw [aSP] at h
 obtain⟨o0,e,o1,r,h1,h2⟩:=h
 exact⟨_,o0,o1,r,h1,lE e,h2⟩
theorem bHP {b n:Nat} {K:Prop} (h:b*n≤1000000)(h0:n≤1000000)(k:K):rq (mkB b (n:Int)) K:=by
 rw [mkT h h0];exact k
theorem Wy {G Q:Prop} (q:Q)(h:Hd Q→G:=by
 intro q
 (repeat((conv=>whnf);(fail_if_success refine qF.mk ?_);(fail_if_success refine aI7.mk ?_);(fail_if_success refine aCG.mk ?_);first |refine Cd.gq ?_ |refine OB.mk Sd ?_ |refine OB.mk (fun _=>Sd) ?_ |refine Exists.intro _ (And.intro Nz ?_)|refine Exists.intro _ (And.intro ixN ?_)|refine Exists.intro _ (And.intro ixL ?_)|refine Exists.intro _ (And.intro (asI (by assumption)) ?_)|refine Or.inl (Exists.intro _ (And.intro (bAW Sd) ?_))|refine Or.inl (Exists.intro _ (And.intro (by assumption) ?_))|refine Exists.intro true (And.intro rfl ?_)|refine Exists.intro false (And.intro rfl ?_)|refine Exists.intro _ (And.intro Bz ?_)|refine Exists.intro _ (And.intro Nl ?_)|refine Exists.intro _ (And.intro Np ?_)|refine Exists.intro _ (And.intro (aUL (by assumption) (by omega)) ?_)|refine Exists.intro _ (And.intro rfl ?_)|refine And.intro rfl ?_ |refine aB rfl ?_ |refine aB (bD9 _) ?_ |refine bHP Sd Sd ?_ |refine aB Sd ?_ |refine aH (fun _=>Sd) ?_ |refine .inl ⟨.bool false,fun h=>Bool.noConfusion (show false=true from h),.inr rfl,?_⟩|refine .inl ⟨_,fun _=>⟨aHF rfl,(by assumption)⟩,.inl rfl,?_⟩| (refine .inr ⟨fun _=>ucR ?_,(by intro h;cases h)⟩;(conv=>whnf);refine Exists.intro _ (And.intro rfl ?_);refine⟨_,_,(by assumption),rfl,(by rfl),(by rfl),?_⟩)|refine aLK (by assumption) ?_ |refine aLJ (by assumption) ?_ |refine aRM (by omega) ?_ |refine aRL (by omega) ?_ |refine aLK Sd ?_ |refine aLJ Sd ?_ |refine bA Sd Sd ?_ |refine aFU Sd Sd Sd Sd ?_ |refine And.intro (Nat.le_of_ble_eq_true rfl) ?_ |refine And.intro (.inl rfl) ?_ |refine And.intro (fun _=>⟨rfl,Nat.le_of_ble_eq_true rfl⟩) ?_ |refine And.intro (fun _=>Nat.le_of_ble_eq_true rfl) ?_ |refine And.intro (fun h=>Bool.noConfusion h) ?_ |refine And.intro (fun _=>Sd) ?_ |refine And.intro Sd ?_ |refine .inl ⟨_,fun _=>⟨aHF rfl,aGQ (by assumption) Ag⟩,.inl rfl,?_⟩))
 (conv=>whnf)
 exact q.h):G:=h ⟨q⟩
theorem Lo5 {G:Prop} (h:G:=by
 (try refine qF.mk ?_)
 (repeat((conv=>whnf);first |refine And.intro (fun _=>⟨rfl,Nat.le_of_ble_eq_true rfl⟩) ?_ |refine And.intro (fun _=>Nat.le_of_ble_eq_true rfl) ?_ |refine And.intro (Nat.le_of_ble_eq_true rfl) ?_ |refine And.intro (fun _=>Sd) ?_))
 (conv=>whnf)
 refine⟨[some 0,some 1,some 2,some 3,some 4],?_,rfl,?_,rfl,?_⟩
 all_goals(repeat' (first |exact trivial |rfl |exact .inl rfl |exact .inr rfl |exact id |exact(fun h=>Bool.noConfusion h)|refine And.intro ?_ ?_ |exact Sd | ((conv=>whnf);exact Sd)))):G:=h
theorem Wo5 {G:Prop} (h:G:=by
 refine Wy ?_
 exact Lo5):G:=h
end Go.Sk
namespace Go.Sk
open Go Go.RowKit
variable [fY]
def aL5:Nat→List V
 |0=> []
 |n+1=>.any::aL5 n
theorem aDS:∀ {a b:List V} (h:a.length=b.length) (k:Nat) (l:List Nat),aDR a k l=aDR b k l
 | [],[],_,_,_=>rfl
 |_::r,_::s,h,k,l=>by rw [aDR,aDR,aDS (by simpa using h)]
theorem aCJ:∀n,(aL5 n).length=n
 |0=>rfl
 |n+1=>by rw [aL5,List.length_cons,aCJ n]
structure Rsv(P:Program)(fn:Func)(ks:List Ct)(n:Nat) where
 rc:RC
 rvs:List RV
 h1:fn.results.toList.mapM (jA P)=some rvs
 h2:aHN P fn.ntmps (aDR (aL5 n) 0 (jT rvs)) ks (fn.body.getD .skip)=some rc
theorem cW {P:Program} {f:FuncId} {fn:Func} {ks:List Ct} {n:Nat} (R:Rsv P fn ks n) {ob0 ob1:List Obj} {args:List V} {res:V} (hf:P.funcs[f]? =some fn)(hb0:fn.body.isSome=true)(hl:args.length=n)(hn:Nat.ble args.length fn.ntmps=true)
 (hK:cI 16 0 ob0.length fun n0=>Cd P n0 R.rc ⟨eV 0 args,aM 0 ob0,n0⟩ (qF P n0 R.rvs res ob1)):aN P f ob0 args res ob1:=by
 refine aJ ks hf hb0 R.h1 ?_ hn hK
 rw [aDS (show args.length=(aL5 n).length by rw [aCJ];exact hl)]
 exact R.h2
end Go.Sk
namespace Go.Sk
open Go Go.RowKit
variable [fY]
theorem Lo2 {G:Prop} (h:G:=by
 (try refine qF.mk ?_)
 (repeat((conv=>whnf);first |refine And.intro (fun _=>⟨rfl,Nat.le_of_ble_eq_true rfl⟩) ?_ |refine And.intro (fun _=>Nat.le_of_ble_eq_true rfl) ?_ |refine And.intro (Nat.le_of_ble_eq_true rfl) ?_ |refine And.intro (fun _=>Sd) ?_))
 (conv=>whnf)
 refine⟨[some 0,some 1],?_,rfl,?_,rfl,?_⟩
 all_goals(repeat' (first |exact trivial |rfl |exact .inl rfl |exact .inr rfl |exact id |exact(fun h=>Bool.noConfusion h)|refine And.intro ?_ ?_ |exact Sd | ((conv=>whnf);exact Sd)))):G:=h
theorem Wo2 {G:Prop} (h:G:=by
 refine Wy ?_
 exact Lo2):G:=h
theorem qA {G:Prop} (h:G:=by
 refine Wy ?_
 exact Lz):G:=h
end Go.Sk
namespace Go.Sk
open Go Go.RowKit
variable [fY]
structure aVI(P:Program)(fn:Func)(ks:List Ct)(n:Nat) where
 ca:Code
 o:Oper
 g:FuncId
 cb:Code
 rca:RC
 rcb:RC
 rvs:List RV
 h0:aIT P (fn.body.getD .skip)=some (ca,o,g,cb)
 h1:fn.results.toList.mapM (jA P)=some rvs
 h2:aKC P fn.ntmps (aDR (aL5 n) 0 (jT rvs)) ks ca cb=some (rca,rcb)
theorem dH {P:Program} {f:FuncId} {fn:Func} {ks:List Ct} {n:Nat} (R:aVI P fn ks n) {ob0 ob1:List Obj} {args:List V} {res:V} (hq:Quiet P R.g)(hf:P.funcs[f]? =some fn)(hb0:fn.body.isSome=true)(hl:args.length=n)(hn:Nat.ble args.length fn.ntmps=true)
 (hK:cI 16 0 ob0.length fun n0=>Cd P n0 R.rca ⟨eV 0 args,aM 0 ob0,n0⟩ (bAR P n0 R.rcb (qF P n0 R.rvs res ob1))):aN P f ob0 args res ob1:=by
 refine bBF ks hf hb0 R.h0 hq R.h1 ?_ hn (by simpa only [aMZ] using hK)
 rw [aDS (show args.length=(aL5 n).length by rw [aCJ];exact hl)]
 exact R.h2
end Go.Sk
