/- Caches. -/
import Derived.Test.YtmhapcbjjpadnaaGreatK6m
import Derived.Test.YtmhapcbjjpadnaaGreatK7m
set_option linter.unusedSimpArgs false
set_option linter.unusedVariables false
set_option linter.unusedSectionVars false
namespace Go.Sk
open Go Go.RowKit
variable [fQ]
def aAR:V→Bool
 | .sl _ _ _=>false
 | .slk _ _ _ _=>false
 | .ptr _ _ _=>false
 |_=>true
def aQ2:V→Bool
 | .agg cs=>cs.all aAR
 | .fn _ cs=>cs.all aAR
 |v=>aAR v
theorem aJ8 {S:aC} {v:V} (h:aAR v=true):gZ S v:=by
 cases v <;> first |exact trivial | (simp [aAR] at h)
theorem aO0 {S:aC} {v:V} (h:aQ2 v=true):mI S v:=by
 cases v with
 |agg cs=>intro c hc;exact aJ8 (List.all_eq_true.1 h c hc)
 |fn f cs=>intro c hc;exact aJ8 (List.all_eq_true.1 h c hc)
 |sl k o l=>simp [aQ2,aAR] at h
 |slk k o l c=>simp [aQ2,aAR] at h
 |ptr k i c=>simp [aQ2,aAR] at h
 |_=>exact trivial
theorem aE7 {S:aC} {l:List V} (h:l.all aQ2=true):∀v∈l,mI S v:=fun v hv=>aO0 (List.all_eq_true.1 h v hv)
theorem cO {n0:Nat} {st st':St} (ids:List (Option Nat))(h1:st'.so=aL 0 (st'.so.map Prod.snd))(h2:st'.nx=(st'.so.map Prod.snd).length)(h3:mN st.so ids ids (st'.so.map Prod.snd))(h4:oW ids=true)
 (h5:mA 0 n0 ids) (h6:Nat.ble n0 (st'.so.map Prod.snd).length=true) (h7:uZ st.sl st.so ids st'.sl):View n0 st st':=⟨ids,_,h1,h2,h3,h4,h5,h6,h7⟩
theorem aY {n:Int} (h: -9223372036854775808≤n:=by omega)(h':n<9223372036854775808:=by omega):IntKind.i64.wrap n=n:=by rw [IntKind.wrap_i64];omega
structure Hd(Q:Prop):Prop where
 h:Q
theorem Wk {G Q:Prop} (q:Q)(h:Hd Q→G:=by
 intro q
 (repeat((conv=>whnf);first |refine Cd.go ?_ |refine⟨rfl,?_⟩|refine aE ⟨.inl rfl,rfl⟩ ?_ |refine aE rfl ?_ |refine⟨Nat.le_of_ble_eq_true rfl,?_⟩|refine⟨.inl rfl,?_⟩|refine⟨fun _=>⟨rfl,Nat.le_of_ble_eq_true rfl⟩,?_⟩|refine⟨fun _=>Nat.le_of_ble_eq_true rfl,?_⟩|refine⟨fun h=>Bool.noConfusion h,?_⟩))
 (conv=>whnf)
 exact q.h):G:=h ⟨q⟩
theorem dF {C1 G Q:Prop} (c1:C1)(q:Q)(h:C1→Hd Q→G:=by
 intro c1 q
 (repeat((conv=>whnf);first |refine Cd.go ?_ |refine⟨rfl,?_⟩|refine aE ⟨.inl rfl,rfl⟩ ?_ |refine aE rfl ?_ |refine⟨Nat.le_of_ble_eq_true rfl,?_⟩|refine⟨.inl rfl,?_⟩|refine⟨fun _=>⟨rfl,Nat.le_of_ble_eq_true rfl⟩,?_⟩|refine⟨fun _=>Nat.le_of_ble_eq_true rfl,?_⟩|refine⟨fun h=>Bool.noConfusion h,?_⟩|refine .inl ⟨_,fun _=>⟨aE7 rfl,(by exact c1)⟩,.inl rfl,?_⟩))
 (conv=>whnf)
 exact q.h):G:=h c1 ⟨q⟩
theorem Wk2 {C1 C2 G Q:Prop} (c1:C1)(c2:C2)(q:Q)(h:C1→C2→Hd Q→G:=by
 intro c1 c2 q
 (repeat((conv=>whnf);first |refine Cd.go ?_ |refine⟨rfl,?_⟩|refine aE ⟨.inl rfl,rfl⟩ ?_ |refine aE rfl ?_ |refine⟨Nat.le_of_ble_eq_true rfl,?_⟩|refine⟨.inl rfl,?_⟩|refine⟨fun _=>⟨rfl,Nat.le_of_ble_eq_true rfl⟩,?_⟩|refine⟨fun _=>Nat.le_of_ble_eq_true rfl,?_⟩|refine⟨fun h=>Bool.noConfusion h,?_⟩|refine .inl ⟨_,fun _=>⟨aE7 rfl,(by first |exact c1 |exact c2)⟩,.inl rfl,?_⟩))
 (conv=>whnf)
 exact q.h):G:=h c1 c2 ⟨q⟩
theorem Wk3 {C1 C2 C3 G Q:Prop} (c1:C1)(c2:C2)(c3:C3)(q:Q)(h:C1→C2→C3→Hd Q→G:=by
 intro c1 c2 c3 q
 (repeat((conv=>whnf);first |refine Cd.go ?_ |refine⟨rfl,?_⟩|refine aE ⟨.inl rfl,rfl⟩ ?_ |refine aE rfl ?_ |refine⟨Nat.le_of_ble_eq_true rfl,?_⟩|refine⟨.inl rfl,?_⟩|refine⟨fun _=>⟨rfl,Nat.le_of_ble_eq_true rfl⟩,?_⟩|refine⟨fun _=>Nat.le_of_ble_eq_true rfl,?_⟩|refine⟨fun h=>Bool.noConfusion h,?_⟩|refine .inl ⟨_,fun _=>⟨aE7 rfl,(by first |exact c1 |exact c2 |exact c3)⟩,.inl rfl,?_⟩))
 (conv=>whnf)
 exact q.h):G:=h c1 c2 c3 ⟨q⟩
theorem Wk4 {C1 C2 C3 C4 G Q:Prop} (c1:C1)(c2:C2)(c3:C3)(c4:C4)(q:Q)(h:C1→C2→C3→C4→Hd Q→G:=by
 intro c1 c2 c3 c4 q
 (repeat((conv=>whnf);first |refine Cd.go ?_ |refine⟨rfl,?_⟩|refine aE ⟨.inl rfl,rfl⟩ ?_ |refine aE rfl ?_ |refine⟨Nat.le_of_ble_eq_true rfl,?_⟩|refine⟨.inl rfl,?_⟩|refine⟨fun _=>⟨rfl,Nat.le_of_ble_eq_true rfl⟩,?_⟩|refine⟨fun _=>Nat.le_of_ble_eq_true rfl,?_⟩|refine⟨fun h=>Bool.noConfusion h,?_⟩|refine .inl ⟨_,fun _=>⟨aE7 rfl,(by first |exact c1 |exact c2 |exact c3 |exact c4)⟩,.inl rfl,?_⟩))
 (conv=>whnf)
 exact q.h):G:=h c1 c2 c3 c4 ⟨q⟩
theorem Lf {G:Prop} (h:G:=by
 refine⟨[],trivial,rfl,trivial,rfl,?_⟩
 repeat' (first |exact trivial |rfl |exact .inl rfl |exact .inr rfl |exact id |exact(fun h=>Bool.noConfusion h)|refine And.intro ?_ ?_)):G:=h
theorem Cl {G:Prop} (h:G:=by repeat' (first |exact trivial |rfl |exact .inl rfl |exact .inr rfl |exact id |exact(fun h=>Bool.noConfusion h)|refine And.intro ?_ ?_)):G:=h
structure VwP(n0:Nat)(st st':St)(ids:List (Option Nat)):Prop where
 h1:st'.so=aL 0 (st'.so.map Prod.snd)
 h2:st'.nx=(st'.so.map Prod.snd).length
 h3:mN st.so ids ids (st'.so.map Prod.snd)
 h4:oW ids=true
 h5:mA 0 n0 ids
 h6:Nat.ble n0 (st'.so.map Prod.snd).length=true
 h7:uZ st.sl st.so ids st'.sl
theorem Vw {n0:Nat} {st st':St} (ids:List (Option Nat))(h:VwP n0 st st' ids:=by
 refine⟨rfl,rfl,?_,rfl,?_,rfl,?_⟩
 repeat' (first |exact trivial |rfl |exact .inl rfl |exact .inr rfl |exact id |exact(fun h=>Bool.noConfusion h)|refine And.intro ?_ ?_)):View n0 st st':=cO ids h.h1 h.h2 h.h3 h.h4 h.h5 h.h6 h.h7
theorem Vq {n0:Nat} {st st':St} (ids:List (Option Nat))(h:VwP n0 st st' ids:=by
 refine⟨rfl,rfl,?_,?_,?_,?_,?_⟩
 rotate_left 4
 ·repeat' (first |exact trivial |rfl |exact .inl rfl |exact .inr rfl |exact id |exact(fun h=>Bool.noConfusion h)|refine And.intro ?_ ?_)
 ·repeat' (first |exact trivial |rfl |exact .inl rfl |exact .inr rfl |exact id |exact(fun h=>Bool.noConfusion h)|refine And.intro ?_ ?_)
 ·rfl
 ·repeat' (first |exact trivial |rfl |exact .inl rfl |exact .inr rfl |exact id |exact(fun h=>Bool.noConfusion h)|refine And.intro ?_ ?_)
 ·rfl):View n0 st st':=cO ids h.h1 h.h2 h.h3 h.h4 h.h5 h.h6 h.h7
end Go.Sk
namespace Go.Sk
open Go Go.RowKit
variable [fQ]
def vQ(v:V)(K:V→Prop):Prop:=
 match v with
 | .int k n=>∃m,n=m∧K (.int k m)
 | .ptr k i c=>∃j,i=j∧K (.ptr k j c)
 | .rp es cs c=>∃r,cs=r∧K (.rp es r c)
 | .sl k off len=>∃p:Nat×Nat,(off,len)=p∧K (.sl k p.1 p.2)
 | .bool b=>∃c,b=c∧K (.bool c)
 |v=>K v
theorem bHK(v:V)(K:V→Prop):vQ v K=K v:=by
 unfold vQ
 split
 all_goals first
  |rfl
  |exact propext ⟨(by rintro ⟨_,rfl,h⟩;exact h),fun h=>⟨_,rfl,h⟩⟩
structure OB(C K:Prop):Prop where
 h:C
 k:K
theorem aYV {C K:Prop} :OB C K=(C∧K):=propext ⟨fun h=>⟨h.h,h.k⟩,fun h=>⟨h.1,h.2⟩⟩
def aWX(P:Program)(ssl:aX)(sso:aC)(snx:Nat)(ch:List (Nat×Bool))(gc:Bool)(i:I)(K:V→aC→Nat→Prop):Prop:=
 match i with
 | .ld agg n x=>match bN ssl ch x with
   | .ptr k i c=>match sso.get k with
     |some (.row es xs)=>gq gc (decide (i<xs.length)) (∃r,xs.getD i []=r∧rq (decide (c+n≤es)) (K (nT agg es r c n) sso snx))
     |_=>eA P ssl sso snx ch gc (.ld agg n x) K
   |_=>eA P ssl sso snx ch gc (.ld agg n x) K
 | .st m x y=>match ch with
   | []=>match bN ssl [] x,(bN ssl [] y).cells? with
     | .ptr k i c,some cs=>match sso.get k with
       |some (.row es xs)=>rq (decide (i<xs.length)) (rq (decide (c+m≤es)) (rq (decide (cs.length=m)) (rq (cs.all bW) (∃r,xs.getD i []=r∧K .any (sso.set k (.row es (xs.set i (aR es r c cs)))) snx))))
       |_=>eA P ssl sso snx [] gc (.st m x y) K
     |_,_=>eA P ssl sso snx [] gc (.st m x y) K
   |g::r=>eA P ssl sso snx (g::r) gc (.st m x y) K
 | .scat x y=>match bN ssl ch x,bN ssl ch y with
   | .str a,.str b=>OB (gc=true→a.size+b.size≤9223372036854775807) (K (.str (a++b)) sso snx)
   |_,_=>eA P ssl sso snx ch gc (.scat x y) K
 | .s2b x=>match ch with
   | []=>match bN ssl [] x with
     | .str s=>OB (s.size≤9223372036854775807) (K (.sl snx 0 s.size) (sso.set snx (.bb s.data.toList)) (snx+1))
     |_=>eA P ssl sso snx [] gc (.s2b x) K
   |g::r=>eA P ssl sso snx (g::r) gc (.s2b x) K
 | .b2s x=>match tK (bN ssl ch x) with
   | .sl k off len=>match sso.get k with
     |some (.row 1 xs)=>(∃l,fM ((xs.drop off).take len)=some l∧gq gc (decide (off+len≤xs.length)) (K (.str ⟨l.toArray⟩) sso snx))∨(fM ((xs.drop off).take len)=none∧rq (!gc) (K .any sso snx))
     |_=>eA P ssl sso snx ch gc (.b2s x) K
   |_=>eA P ssl sso snx ch gc (.b2s x) K
 | .bin op x y=>eA P ssl sso snx ch gc (.bin op x y) fun v S n=>vQ v fun v=>K v S n
 | .conv k x=>eA P ssl sso snx ch gc (.conv k x) fun v S n=>vQ v fun v=>K v S n
 | .pick c a b=>eA P ssl sso snx ch gc (.pick c a b) fun v S n=>vQ v fun v=>K v S n
 | .un op x=>eA P ssl sso snx ch gc (.un op x) fun v S n=>vQ v fun v=>K v S n
 | .iaddr es x i=>eA P ssl sso snx ch gc (.iaddr es x i) fun v S n=>vQ v fun v=>K v S n
 | .slc es x a b=>eA P ssl sso snx ch gc (.slc es x a b) fun v S n=>vQ v fun v=>K v S n
 | .len x=>eA P ssl sso snx ch gc (.len x) fun v S n=>vQ v fun v=>K v S n
 | .app es by_ x y=>eA P ssl sso snx ch gc (.app es by_ x y) fun v S n=>vQ v fun v=>K v S n
 | .mx x y=>eA P ssl sso snx ch gc (.mx x y) fun v S n=>vQ v fun v=>K v S n
 | .mn x y=>eA P ssl sso snx ch gc (.mn x y) fun v S n=>vQ v fun v=>K v S n
 |i=>eA P ssl sso snx ch gc i K
theorem aNC(P:Program)(ssl:aX)(sso:aC)(snx:Nat)(ch:List (Nat×Bool))(gc:Bool)(i:I)(K:V→aC→Nat→Prop):aWX P ssl sso snx ch gc i K=eA P ssl sso snx ch gc i K:=by
 unfold aWX
 split
 ·split
  ·rename_i h1
   split
   ·rename_i h2
    simp only [eA,rdF,h1,h2,aL5]
    exact propext ⟨(by rintro ⟨h3,_,rfl,h⟩;exact⟨h3,h⟩),fun h=>⟨h.1,_,rfl,h.2⟩⟩
   ·rfl
  ·rfl
 ·split
  ·split
   ·rename_i h1 h2
    split
    ·rename_i h3
     simp only [eA,pZ,wrF,h1,h2,h3,eW]
     exact propext ⟨(by rintro ⟨a,b,c,d,_,rfl,h⟩;exact⟨a,b,c,d,h⟩),fun⟨a,b,c,d,h⟩=>⟨a,b,c,d,_,rfl,h⟩⟩
    ·rfl
   ·rfl
  ·rfl
 ·split
  ·rename_i h1 h2
   simp only [eA,rdF,h1,h2,aL5,aYV,Nat.ble_eq]
  ·rfl
 ·split
  ·split
   ·rename_i h1
    simp only [eA,pZ,wrF,h1,eW,aYV,Nat.ble_eq]
   ·rfl
  ·rfl
 ·split
  ·rename_i h1
   split
   ·rename_i xs h2
    simp only [eA,rdF,h1,h2]
    split
    ·rename_i l hl
     exact propext ⟨(by rintro (⟨l',e,h⟩| ⟨e,h⟩);·rw [hl] at e;cases e;exact h
                        ·rw [hl] at e;cases e),fun h=>.inl ⟨l,hl,h⟩⟩
    ·rename_i hl
     exact propext ⟨(by rintro (⟨l',e,h⟩| ⟨e,h⟩);·rw [hl] at e;cases e
                        ·exact h),fun h=>.inr ⟨hl,h⟩⟩
   ·rfl
  ·rfl
 all_goals first |rfl | (simp only [bHK])
def aXF(P:Program):List oD→St→(St→Prop)→Prop
 | [],st,K=>K st
 | ⟨d,g,i⟩::r,⟨ssl,sso,snx⟩,K=>qJ ssl g fun ch gc=>aWX P ssl sso snx ch gc i fun v S n=>kU v fun v=>cV S fun S=>cG 64 0 n fun n=>aDI ssl d ⟨ch,gc,v⟩ fun sl=>aXF P r ⟨sl,S,n⟩ K
theorem aNX(P:Program):∀(l:List oD) (st:St) (K:St→Prop),aXF P l st K=aBD P l st K
 | [],_,_=>rfl
 | ⟨d,g,i⟩::r,⟨ssl,sso,snx⟩,K=>by simp only [aXF,aBD,aNC,aNX P r]
def aRQ(P:Program):St→Nat→Option Nat→Option (Nat×Bool)→I→(Rec→St→Prop)→Prop
 | ⟨ssl,sso,snx⟩,m,d,g,i,K=>
 cL (gsl g++aJX i) fun rds=>oR (look ssl rds) fun SL=>qJ SL g fun ch gc=>cL (qL i SL sso) fun T=>cV (gK sso T) fun SO=>cL (gsl g++chs SL) fun G=>
  aWX P SL SO m ch gc i fun v S1 n1=>kU v fun v=>cV S1 fun S1=>cL (wrI SL T m n1 i) fun W=>cL (W++aD3 m S1) fun ids=>
   (vP T m S1&&(qS d G&&(aBY (m+16) ids&&(aEA W T&&(aEA (chT ch) G&&(aC1 m T&&Nat.ble n1 (m+16)))))))=true∧aAY SO S1 W
   (aDI ssl d ⟨ch,gc,v⟩ fun sl=>cV (uO sso S1 ids) fun so=>K ⟨m,rds++G,chT ch,d,⟨ch,gc,v⟩,T,ids,S1⟩ ⟨sl,so,snx⟩) T
theorem aRR(P:Program)(st:St)(m:Nat)(d:Option Nat)(g:Option (Nat×Bool))(i:I)(K:Rec→St→Prop):aRQ P st m d g i K=aCF P st m d g i K:=by
 obtain⟨ssl,sso,snx⟩:=st
 simp only [aRQ,aCF,aNC,aGF]
def aI2(P:Program):List oD→List Nat→St→(List Rec→St→Prop)→Prop
 | [],[],st,K=>K [] st
 | ⟨d,g,i⟩::r,m::ms,st,K=>aRQ P st m d g i fun rc st'=>aI2 P r ms st' fun rs st''=>K (rc::rs) st''
 |_,_,_,_=>False
theorem aI3(P:Program):∀(l:List oD) (ms:List Nat) (st:St) (K:List Rec→St→Prop),aI2 P l ms st K=lY P l ms st K
 | [],[],_,_=>rfl
 | [],_::_,_,_=>rfl
 |_::_,[],_,_=>rfl
 | ⟨d,g,i⟩::r,m::ms,st,K=>by simp only [aI2,lY,aRR,aI3 P r]
structure aHH(P:Program)(n0:Nat)(c:RC)(st:St)(K:Ex→St→Prop):Prop where
 h:∃(α:Type) (I:α→Prop) (F:α→St) (m:α→Nat),(∃a,I a∧View n0 st (F a))∧∀a,I a→Cd P n0 c (F a) (aMI n0 I F m a K)
structure aBW {α:Type} (n0:Nat)(I:α→Prop)(F:α→St)(m:α→Nat)(a:α)(st:St):Prop where
 h:∃a',I a'∧View n0 st (F a')∧m a'<m a
def aR5 {α:Type} (n0:Nat)(I:α→Prop)(F:α→St)(m:α→Nat)(a:α)(K:Ex→St→Prop)(e:Ex)(st':St):Prop:=
 match e with
 | .normal=>aBW n0 I F m a st'
 | .exit id=>K (.exit id) st'
 | .ret=>K .ret st'
theorem aOZ {α:Type} (n0:Nat)(I:α→Prop)(F:α→St)(m:α→Nat)(a:α)(K:Ex→St→Prop):aR5 n0 I F m a K=aMI n0 I F m a K:=by
 funext e st'
 cases e with
 |normal=>exact propext ⟨fun h=>h.h,fun h=>⟨h⟩⟩
 |_=>rfl
structure sQ(P:Program)(n0:Nat)(rvs:List RV)(res:V)(ob1:List Obj)(e:Ex)(st:St):Prop where
 h:fO P n0 rvs res ob1 e st
theorem aMJ(P:Program)(n0:Nat)(rvs:List RV)(res:V)(ob1:List Obj):sQ P n0 rvs res ob1=fO P n0 rvs res ob1:=by
 funext e st
 exact propext ⟨fun h=>h.h,fun h=>⟨h⟩⟩
theorem bM(ks:List Ct) {P:Program} {f:FuncId} {fn:Func} {rc:RC} {rvs:List RV} {ob0 ob1:List Obj} {args:List V} {res:V} (hf:P.funcs[f]? =some fn)(hb0:fn.body.isSome=true)
 (hrv:fn.results.toList.mapM (iU P)=some rvs) (hres:aGX P fn.ntmps (aDD args 0 (jT rvs)) ks (fn.body.getD .skip)=some rc) (hn:Nat.ble args.length fn.ntmps=true)
 (hK:cG 16 0 ob0.length fun n0=>Cd P n0 rc ⟨eL 0 args,aL 0 ob0,n0⟩ (sQ P n0 rvs res ob1)):aQ P f ob0 args res ob1:=
 aF ks hf hb0 hrv hres hn (by simpa only [aMJ] using hK)
def CdQ(P:Program)(n0:Nat)(rc:RC)(st:St)(K:Ex→St→Prop):Prop:=
 match rc with
 | .reg l kill=>aXF P l st fun | ⟨sl0,so0,nx0⟩=>eH kill sl0 fun sl=>K .normal ⟨sl,so0,nx0⟩
 | .dreg b0 n l kill an ms=>match Nat.ble st.nx b0 with
   |true=>aI2 P l ms ⟨st.sl,st.so,n⟩ fun |recs,⟨sl0,so0,nx0⟩=>lX recs an 0=true∧eH kill (look sl0 (pS sl0)) fun sl=>K .normal ⟨sl,so0,nx0⟩
   |false=>aI2 P l (shM st.nx ms) ⟨st.sl,st.so,n+st.nx⟩ fun |recs,⟨sl0,so0,nx0⟩=>lX recs an 0=true∧eH kill (look sl0 (pS sl0)) fun sl=>K .normal ⟨sl,so0,nx0⟩
 | .loop c=>aHH P n0 c st K
 |rc=>CdB P n0 rc st K
theorem Cd.gq {P:Program} {n0:Nat} {rc:RC} {st:St} {K:Ex→St→Prop} (h:CdQ P n0 rc st K):Cd P n0 rc st K:=by
 cases rc with
 |reg l k=>exact Cd.reg (by rw [←aNX];exact h)
 |dreg b0 n l kill an ms=>
  unfold CdQ at h
  simp only [aI3] at h
  exact Cd.go h
 |loop c=>exact Cd.loop h.h
 |_=>exact Cd.go h
omit [fQ] in
theorem wI {n:Int} (h: -9223372036854775808≤n)(h':n<9223372036854775808):IntKind.i64.wrap n=n:=by rw [IntKind.wrap_i64];omega
omit [fQ] in
theorem vV(x:Nat)(h:x<9223372036854775808):(BitVec.ofInt 64 (x:Int)).toNat=x:=by
 rw [BitVec.toNat_ofInt];omega
omit [fQ] in
theorem bE7 {x y:Nat} (hx:x<9223372036854775808)(hy:y<9223372036854775808):fN .and .i64 (x:Int) (y:Int)=((x &&& y:Nat):Int):=by
 have h:=Nat.and_le_left (n:=x) (m:=y)
 show IntKind.i64.wrap (((BitVec.ofInt 64 (x:Int)&&& BitVec.ofInt 64 (y:Int)).toNat:Nat):Int)=_
 rw [BitVec.toNat_and,vV x hx,vV y hy]
 exact wI (by omega) (by omega)
omit [fQ] in
theorem bOr {x y:Nat} (hx:x<9223372036854775808)(hy:y<9223372036854775808):fN .or .i64 (x:Int) (y:Int)=((x ||| y:Nat):Int):=by
 have h:=Nat.or_lt_two_pow (n:=63) hx hy
 show IntKind.i64.wrap (((BitVec.ofInt 64 (x:Int)||| BitVec.ofInt 64 (y:Int)).toNat:Nat):Int)=_
 rw [BitVec.toNat_or,vV x hx,vV y hy]
 exact wI (by omega) (by omega)
omit [fQ] in
theorem bIA {x y:Nat} (hx:x<9223372036854775808)(hy:y<9223372036854775808):fN .xor .i64 (x:Int) (y:Int)=((x ^^^ y:Nat):Int):=by
 have h:=Nat.xor_lt_two_pow (n:=63) hx hy
 show IntKind.i64.wrap (((BitVec.ofInt 64 (x:Int)^^^ BitVec.ofInt 64 (y:Int)).toNat:Nat):Int)=_
 rw [BitVec.toNat_xor,vV x hx,vV y hy]
 exact wI (by omega) (by omega)
omit [fQ] in
theorem bE8 {x b:Nat} (hx:x<9223372036854775808)(hy:(OfNat.ofNat b:Nat)<9223372036854775808):fN .and .i64 (x:Int) (OfNat.ofNat b:Int)=((x &&& (OfNat.ofNat b:Nat):Nat):Int):=bE7 hx hy
omit [fQ] in
theorem bI9 {x b:Nat} (hx:x<9223372036854775808)(hy:(OfNat.ofNat b:Nat)<9223372036854775808):fN .or .i64 (x:Int) (OfNat.ofNat b:Int)=((x ||| (OfNat.ofNat b:Nat):Nat):Int):=bOr hx hy
omit [fQ] in
theorem bK1 {a k:Nat} (hk:k<63)(h:a*2^k<9223372036854775808):IntKind.i64.wrap ((a:Int)*2^min (k:Int).toNat IntKind.i64.bits)=((a*2^k:Nat):Int):=by
 have e:min (k:Int).toNat IntKind.i64.bits=k:=by show min k 64=k;omega
 rw [e,show(a:Int)*2^k=((a*2^k:Nat):Int) by simp]
 exact wI (by omega) (by omega)
omit [fQ] in
theorem bK0 {k:Nat} (hk:k<62):IntKind.i64.wrap (1*2^min (k:Int).toNat IntKind.i64.bits)=((2^k:Nat):Int):=by
 have h:2^k<2^62:=Nat.pow_lt_pow_right (by omega) hk
 have :=bK1 (a:=1) (k:=k) (by omega) (by omega)
 rwa [Nat.one_mul] at this
omit [fQ] in
theorem bK2 {a k:Nat} (hk:k≤64):(a:Int).fdiv (2^min (k:Int).toNat IntKind.i64.bits)=((a/2^k:Nat):Int):=by
 have e:min (k:Int).toNat IntKind.i64.bits=k:=by show min k 64=k;omega
 have e2:(2:Int)^k=((2^k:Nat):Int):=by simp
 rw [e,e2,Int.fdiv_eq_ediv_of_nonneg _ (Int.natCast_nonneg _)]
 exact(Int.natCast_ediv _ _).symm
omit [fQ] in
theorem divN {a b:Nat} (ha:a<9223372036854775808):IntKind.i64.wrap ((a:Int).tdiv (b:Int))=((a/b:Nat):Int):=by
 have h:=Nat.div_le_self a b
 rw [show(a:Int).tdiv (b:Int)=((a/b:Nat):Int) by rw [Int.tdiv_eq_ediv_of_nonneg (by omega)];exact(Int.natCast_ediv _ _).symm]
 generalize a/b=c at *
 exact wI (by omega) (by omega)
omit [fQ] in
theorem bIH {a b:Nat} (ha:a<9223372036854775808):IntKind.i64.wrap ((a:Int).tdiv (OfNat.ofNat b:Int))=((a/(OfNat.ofNat b:Nat):Nat):Int):=divN ha
omit [fQ] in
theorem bEX {a b:Nat} :(a:Int).tmod (b:Int)=((a%b:Nat):Int):=by
 rw [Int.tmod_eq_emod_of_nonneg (by omega)];exact(Int.natCast_emod _ _).symm
omit [fQ] in
theorem bIV {a b:Nat} :(a:Int).tmod (OfNat.ofNat b:Int)=((a%(OfNat.ofNat b:Nat):Nat):Int):=bEX
omit [fQ] in
theorem wA {i j:Nat} (h:i+j<9223372036854775807):IntKind.i64.wrap ((i:Int)+(j:Int))=((i+j:Nat):Int):=by rw [wI (by omega) (by omega)];omega
omit [fQ] in
theorem wAL {i b:Nat} (h:i+(OfNat.ofNat b:Nat)<9223372036854775807):IntKind.i64.wrap ((i:Int)+(OfNat.ofNat b:Int))=((i+(OfNat.ofNat b:Nat):Nat):Int):=wA h
omit [fQ] in
theorem wLA {i b:Nat} (h:(OfNat.ofNat b:Nat)+i<9223372036854775807):IntKind.i64.wrap ((OfNat.ofNat b:Int)+(i:Int))=(((OfNat.ofNat b:Nat)+i:Nat):Int):=wA h
omit [fQ] in
theorem wM {i j:Nat} (h:i*j<9223372036854775807):IntKind.i64.wrap ((i:Int)*(j:Int))=((i*j:Nat):Int):=by rw [←Int.natCast_mul];exact wI (by omega) (by omega)
omit [fQ] in
theorem wML {i b:Nat} (h:i*(OfNat.ofNat b:Nat)<9223372036854775807):IntKind.i64.wrap ((i:Int)*(OfNat.ofNat b:Int))=((i*(OfNat.ofNat b:Nat):Nat):Int):=wM h
omit [fQ] in
theorem wD {i j:Nat} (h:j≤i)(h2:i<9223372036854775807):IntKind.i64.wrap ((i:Int)- (j:Int))=((i-j:Nat):Int):=by rw [wI (by omega) (by omega)];omega
omit [fQ] in
theorem wP {i:Nat} (h:i<9223372036854775807):IntKind.i64.wrap (((i+1:Nat):Int)-1)=(i:Int):=by rw [wI (by omega) (by omega)];omega
omit [fQ] in
theorem wDL {i b:Nat} (h:(OfNat.ofNat b:Nat)≤i)(h2:i<9223372036854775807):IntKind.i64.wrap ((i:Int)- (OfNat.ofNat b:Int))=((i- (OfNat.ofNat b:Nat):Nat):Int):=wD h h2
omit [fQ] in
theorem wLD {i b:Nat} (h:i≤(OfNat.ofNat b:Nat))(h2:(OfNat.ofNat b:Nat)<9223372036854775807):IntKind.i64.wrap ((OfNat.ofNat b:Int)- (i:Int))=(((OfNat.ofNat b:Nat)-i:Nat):Int):=wD h h2
omit [fQ] in
theorem ixN {n:Nat} :0+(n:Int).toNat=n:=by rw [Nat.zero_add];rfl
omit [fQ] in
theorem ixL {n:Nat} :0+(OfNat.ofNat n:Int).toNat=(OfNat.ofNat n:Nat):=ixN
omit [fQ] in
theorem mxN {a b:Nat} :max (a:Int) (b:Int)=((max a b:Nat):Int):=by omega
omit [fQ] in
theorem mxL {a b:Nat} :max (a:Int) (OfNat.ofNat b:Int)=((max a (OfNat.ofNat b:Nat):Nat):Int):=mxN
omit [fQ] in
theorem mnN {a b:Nat} :min (a:Int) (b:Int)=((min a b:Nat):Int):=by omega
omit [fQ] in
theorem mnL {a b:Nat} :min (a:Int) (OfNat.ofNat b:Int)=((min a (OfNat.ofNat b:Nat):Nat):Int):=mnN
omit [fQ] in
theorem Nz {a b:Int} (h:a=b:=by first |with_reducible exact wP (by omega)|with_reducible exact wAL (by omega)|with_reducible exact wA (by omega)|with_reducible exact wDL (by omega) (by omega)|with_reducible exact wD (by omega) (by omega)|with_reducible exact wML (by omega)|with_reducible exact bIH (by omega)|with_reducible exact bIV |with_reducible exact bE7 (by omega) (by omega)|with_reducible exact bE8 (by omega) (by omega)|with_reducible exact bOr (by omega) (by omega)|with_reducible exact bI9 (by omega) (by omega)|with_reducible exact bK0 (by omega)|with_reducible exact wM (by omega)|with_reducible exact divN (by omega)|with_reducible exact bEX |with_reducible exact wLA (by omega)|with_reducible exact wLD (by omega) (by omega)|with_reducible exact mxN |with_reducible exact mxL |with_reducible exact mnN |with_reducible exact mnL |with_reducible exact bK2 (by omega)|with_reducible exact bIA (by omega) (by omega)|with_reducible exact wI (by omega) (by omega)):a=b:=h
theorem eqT {a b:Int} (h:a=b):(a==b)=true:=beq_iff_eq.2 h
theorem eqF {a b:Int} (h:a≠b):(a==b)=false:=beq_eq_false_iff_ne.2 h
theorem neT {a b:Int} (h:a≠b):(a != b)=true:=bne_iff_ne.2 h
theorem neF {a b:Int} (h:a=b):(a != b)=false:=bne_eq_false_iff_eq.2 h
theorem deT {p:Prop} [Decidable p](h:p):decide p=true:=decide_eq_true h
theorem deF {p:Prop} [Decidable p](h:¬p):decide p=false:=decide_eq_false h
theorem Bz {a b:Bool} (h:a=b:=by first |with_reducible exact deT (by omega)|with_reducible exact deF (by omega)|with_reducible exact eqT (by omega)|with_reducible exact eqF (by omega)|with_reducible exact neT (by omega)|with_reducible exact neF (by omega)):a=b:=h
theorem aYX:∀n:Nat,fM (List.replicate n [V.int .u8 0])=some (List.replicate n 0)
 |0=>rfl
 |n+1=>by rw [List.replicate_succ,fM,aYX n];rfl
theorem bB4 {n m:Nat} (h:n≤m):fM (List.take n (List.drop 0 (List.replicate m [V.int .u8 0])))=some (List.replicate n 0):=by
 rw [List.drop_zero,List.take_replicate,Nat.min_eq_left h,aYX]
theorem asI {a b:Int} (h:a=b):a=b:=h
theorem Nl {a b:Int} (h:a=b:=by simp;rfl):a=b:=h
theorem Np {o l l':Nat} (h:l=l':=by simp;rfl):(o,l)=(o,l'):=by rw [h]
theorem bAV {α:Type} {xs:List α} {n:Nat} (h:xs.length≤n):List.take n (List.drop 0 xs)=xs:=by rw [List.drop_zero,List.take_of_length_le h]
theorem Sd {p:Prop} (h:p:=by(fail_if_success exact True.intro);first |omega |exact bAV (by first |omega | (simp;done)| (simp;omega))| (simp(disch:=omega) [wI,List.take_of_length_le];done)| (simp(disch:=omega) only [wI];omega)| (simp(disch:=omega) [wI,List.take_of_length_le];omega)):p:=h
theorem bDG(x:UInt8):0≤(x.toNat:Int)∧(x.toNat:Int)<256:=by have :=x.toNat_lt;omega
theorem aKX {x:Bool} {A B:Prop} (h:x=true)(a:A):cq x A B:=by rw [aMT];exact⟨fun _=>a,fun e=>by rw [h] at e;cases e⟩
theorem aKW {x:Bool} {A B:Prop} (h:x=false)(b:B):cq x A B:=by rw [aMT];exact⟨(fun e=>by rw [h] at e;cases e),fun _=>b⟩
theorem aRO {p:Prop} [Decidable p] {A B:Prop} (h:p)(a:A):cq (decide p) A B:=aKX (decide_eq_true h) a
theorem aRN {p:Prop} [Decidable p] {A B:Prop} (h:¬p)(b:B):cq (decide p) A B:=aKW (decide_eq_false h) b
theorem aG7 {P:Program} {f:FuncId} {o o1:List Obj} {a b:List V} {r:V} (h:aQ P f o a r o1)(e:b=a):aQ P f o b r o1:=e▸h
theorem aUJ {xs:List (List V)} {i n:Nat} {r:List V} (h:xs.getD n []=r)(e:i=n):xs.getD i []=r:=by rw [e,h]
theorem aL4 {l:List Nat} {K:List Nat→Prop} (h:cL l K):K l:=by rwa [eJ] at h
theorem ucQ {P:Program} {f:FuncId} {args:List V} {S:aC} {m:Nat} {K:V→aC→Nat→Prop} (h:cL (aIP S args) fun L=>∃ob0,oU S L L=some ob0∧∃ob1 res,aQ P f ob0 (args.map (arg2 L)) res ob1∧jH L=true∧Nat.ble L.length ob1.length=true∧Nat.ble ob1.length (L.length+16)=true∧K (aBE L m res) (lH S L (ob1.map (lE L m)) m) (m+16)):mX P f args S m K:=by
 obtain⟨o0,e,o1,r,h1,h2⟩:=aL4 h
 exact⟨_,o0,o1,r,h1,kY e,h2⟩
theorem aW8 {a b:V} {l m:List V} (h:a=b)(k:l=m):a::l=b::m:=by rw [h,k]
theorem bB3 {l m:List V} (h:l=m):V.agg l=V.agg m:=by rw [h]
theorem int_eq {k:IntKind} {n m:Int} (h:n=m):V.int k n=V.int k m:=by rw [h]
theorem aVY {n m:Bool} (h:n=m):V.bool n=V.bool m:=by rw [h]
theorem bBZ {k:Nat} {b:Bool} {n m:List (List V)} (h:n=m):V.lst k b n=V.lst k b m:=by rw [h]
theorem bHE {k a b c d:Nat} (h:a=c)(h':b=d):V.sl k a b=V.sl k c d:=by rw [h,h']
theorem Ag {a b:List V} (h:a=b:=by
 repeat' (first |refine aW8 ?_ ?_ |rfl |refine bB3 ?_ |refine int_eq ?_ |refine aVY ?_ |refine bBZ ?_ |refine bHE ?_ ?_ |exact Sd)):a=b:=h
theorem Cz {G:Prop} (h:G:=by repeat' (first |exact trivial |rfl |exact .inl rfl |exact .inr rfl |exact id |exact(fun h=>Bool.noConfusion h)|refine And.intro ?_ ?_ |exact Sd | ((conv=>whnf);exact Sd))):G:=h
theorem Lz {G:Prop} (h:G:=by
 (try refine sQ.mk ?_)
 (repeat((conv=>whnf);first |refine And.intro (fun _=>⟨rfl,Nat.le_of_ble_eq_true rfl⟩) ?_ |refine And.intro (fun _=>Nat.le_of_ble_eq_true rfl) ?_ |refine And.intro (Nat.le_of_ble_eq_true rfl) ?_ |refine And.intro (fun _=>Sd) ?_))
 (conv=>whnf)
 refine⟨[],trivial,rfl,trivial,rfl,?_⟩
 repeat' (first |exact trivial |rfl |exact .inl rfl |exact .inr rfl |exact id |exact(fun h=>Bool.noConfusion h)|refine And.intro ?_ ?_ |exact Sd | ((conv=>whnf);exact Sd))):G:=h
theorem Vz {n0:Nat} {st st':St} (ids:List (Option Nat))(h:VwP n0 st st' ids:=by
 refine⟨rfl,rfl,?_,rfl,?_,rfl,?_⟩
 repeat' (first |exact trivial |rfl |exact .inl rfl |exact .inr rfl |exact id |exact(fun h=>Bool.noConfusion h)|refine And.intro ?_ ?_ |exact Sd | ((conv=>whnf);exact Sd))):View n0 st st':=cO ids h.h1 h.h2 h.h3 h.h4 h.h5 h.h6 h.h7
theorem Wx {G Q:Prop} (q:Q)(h:Hd Q→G:=by
 intro q
 (repeat((conv=>whnf);(fail_if_success refine sQ.mk ?_);(fail_if_success refine aHH.mk ?_);(fail_if_success refine aBW.mk ?_);first |refine Cd.gq ?_ |refine OB.mk Sd ?_ |refine OB.mk (fun _=>Sd) ?_ |refine Exists.intro _ (And.intro Nz ?_)|refine Exists.intro _ (And.intro ixN ?_)|refine Exists.intro _ (And.intro ixL ?_)|refine Exists.intro _ (And.intro (asI (by assumption)) ?_)|refine Or.inl (Exists.intro _ (And.intro (bB4 Sd) ?_))|refine Or.inl (Exists.intro _ (And.intro (by assumption) ?_))|refine Exists.intro true (And.intro rfl ?_)|refine Exists.intro false (And.intro rfl ?_)|refine Exists.intro _ (And.intro Bz ?_)|refine Exists.intro _ (And.intro Nl ?_)|refine Exists.intro _ (And.intro Np ?_)|refine Exists.intro _ (And.intro (aUJ (by assumption) (by omega)) ?_)|refine Exists.intro _ (And.intro rfl ?_)|refine And.intro rfl ?_ |refine aE rfl ?_ |refine aE (bDG _) ?_ |refine aE Sd ?_ |refine aM (fun _=>Sd) ?_ |refine .inl ⟨.bool false,fun h=>Bool.noConfusion (show false=true from h),.inr rfl,?_⟩|refine .inl ⟨_,fun _=>⟨aE7 rfl,(by assumption)⟩,.inl rfl,?_⟩| (refine .inr ⟨fun _=>ucQ ?_,(by intro h;cases h)⟩;(conv=>whnf);refine Exists.intro _ (And.intro rfl ?_);refine⟨_,_,(by assumption),rfl,(by rfl),(by rfl),?_⟩)|refine aKX (by assumption) ?_ |refine aKW (by assumption) ?_ |refine aRO (by omega) ?_ |refine aRN (by omega) ?_ |refine aKX Sd ?_ |refine aKW Sd ?_ |refine bZ Sd Sd ?_ |refine aFH Sd Sd Sd Sd ?_ |refine And.intro (Nat.le_of_ble_eq_true rfl) ?_ |refine And.intro (.inl rfl) ?_ |refine And.intro (fun _=>⟨rfl,Nat.le_of_ble_eq_true rfl⟩) ?_ |refine And.intro (fun _=>Nat.le_of_ble_eq_true rfl) ?_ |refine And.intro (fun h=>Bool.noConfusion h) ?_ |refine And.intro (fun _=>Sd) ?_ |refine And.intro Sd ?_ |refine .inl ⟨_,fun _=>⟨aE7 rfl,aG7 (by assumption) Ag⟩,.inl rfl,?_⟩))
 (conv=>whnf)
 exact q.h):G:=h ⟨q⟩
theorem Wz {G:Prop} (h:G:=by
 refine Wx ?_
 exact Lz):G:=h
theorem Wx2 {C1 C2 G Q:Prop} (c1:C1)(c2:C2)(q:Q)(h:C1→C2→Hd Q→G:=by
 intro c1 c2 q
 (repeat((conv=>whnf);(fail_if_success refine sQ.mk ?_);(fail_if_success refine aHH.mk ?_);(fail_if_success refine aBW.mk ?_);first |refine Cd.gq ?_ |refine OB.mk Sd ?_ |refine OB.mk (fun _=>Sd) ?_ |refine Exists.intro _ (And.intro Nz ?_)|refine Exists.intro _ (And.intro ixN ?_)|refine Exists.intro _ (And.intro ixL ?_)|refine Exists.intro _ (And.intro (asI (by assumption)) ?_)|refine Or.inl (Exists.intro _ (And.intro (bB4 Sd) ?_))|refine Or.inl (Exists.intro _ (And.intro (by assumption) ?_))|refine Exists.intro true (And.intro rfl ?_)|refine Exists.intro false (And.intro rfl ?_)|refine Exists.intro _ (And.intro Bz ?_)|refine Exists.intro _ (And.intro Nl ?_)|refine Exists.intro _ (And.intro Np ?_)|refine Exists.intro _ (And.intro (aUJ c1 (by omega)) ?_)|refine Exists.intro _ (And.intro (aUJ c2 (by omega)) ?_)|refine Exists.intro _ (And.intro (aUJ (by assumption) (by omega)) ?_)|refine Exists.intro _ (And.intro rfl ?_)|refine And.intro rfl ?_ |refine aE rfl ?_ |refine aE (bDG _) ?_ |refine aE Sd ?_ |refine aM (fun _=>Sd) ?_ |refine .inl ⟨.bool false,fun h=>Bool.noConfusion (show false=true from h),.inr rfl,?_⟩|refine .inl ⟨_,fun _=>⟨aE7 rfl,(by assumption)⟩,.inl rfl,?_⟩| (refine .inr ⟨fun _=>ucQ ?_,(by intro h;cases h)⟩;(conv=>whnf);refine Exists.intro _ (And.intro rfl ?_);refine⟨_,_,(by assumption),rfl,(by rfl),(by rfl),?_⟩)|refine aKX (by assumption) ?_ |refine aKW (by assumption) ?_ |refine aRO (by omega) ?_ |refine aRN (by omega) ?_ |refine aKX Sd ?_ |refine aKW Sd ?_ |refine bZ Sd Sd ?_ |refine aFH Sd Sd Sd Sd ?_ |refine And.intro (Nat.le_of_ble_eq_true rfl) ?_ |refine And.intro (.inl rfl) ?_ |refine And.intro (fun _=>⟨rfl,Nat.le_of_ble_eq_true rfl⟩) ?_ |refine And.intro (fun _=>Nat.le_of_ble_eq_true rfl) ?_ |refine And.intro (fun h=>Bool.noConfusion h) ?_ |refine And.intro (fun _=>Sd) ?_ |refine And.intro Sd ?_ |refine .inl ⟨_,fun _=>⟨aE7 rfl,aG7 (by assumption) Ag⟩,.inl rfl,?_⟩))
 (conv=>whnf)
 exact q.h):G:=h c1 c2 ⟨q⟩
end Go.Sk
namespace Go.Sk
open Go Go.RowKit
variable [fQ]
def sJ:RC→List Nat
 | .reg l _=>mQ l
 | .dreg _ _ l _ _ _=>mQ l
 | .seq a b=>sJ a++sJ b
 | .cut a b=>sJ a++sJ b
 | .regc a b _=>mQ a++mQ b
 | .regv a _ b _=>mQ a++mQ b
 | .cond _ a b=>sJ a++sJ b
 | .block _ c=>sJ c
 | .loop c=>sJ c
 | .uloop c=>sJ c
 |_=> []
def aLC(ds:List Nat):aX→aX
 | []=> []
 | (d,⟨_,g,v⟩)::r=>match gE d ds with
   |true=>aLC ds r
   |false=>(d,⟨[],g,v⟩)::aLC ds r
def aLD(L ds:List Nat):aX→aX
 | []=> []
 | (d,⟨_,g,v⟩)::r=>match gE d ds with
   |true=>aLD L ds r
   |false=>(d,⟨[],g,arg2 L v⟩)::aLD L ds r
def idB:List Nat→Nat→Bool
 | [],_=>true
 |k::r,j=>match Nat.beq k j with
  |true=>idB r (j+1)
  |false=>false
def bBW(L ds:List Nat)(sl:aX):aX:=match idB L 0 with
 |true=>aLC ds sl
 |false=>aLD L ds sl
def aIO {α:Type} :List (Nat×α)→List Nat
 | []=> []
 | (k,_)::r=>k::aIO r
def bAP:List (Nat×V)→aX→aX
 | [],l=>l
 | (d,v)::r,l=>(d,⟨[],true,v⟩)::bAP r l
def bAO:List (Nat×Obj)→aC→aC
 | [],S=>S
 | (k,o)::r,S=>bAO r (S.set k o)
def aZC(L:List Nat):aC→Nat→aC
 | [],_=> []
 | (_,o)::r,j=>(j,aKJ L o)::aZC L r (j+1)
def bF2(S:aC):aC:=match idB (aIO S) 0 with
 |true=>S
 |false=>aZC (aIO S) S 0
def bEV(st:St)(os:List (Nat×Obj)):aC:=bAO os (bF2 st.so)
def lpF(c:RC)(st:St)(us:List (Nat×V))(os:List (Nat×Obj)):St:=
 ⟨bAP us (bBW (aIO st.so) (sJ c++aIO us) st.sl),bEV st os,(bEV st os).length⟩
def aS2(st:St)(K:St→Prop):Prop:=oR st.sl fun sl=>cV st.so fun so=>cG 64 0 st.nx fun nx=>K ⟨sl,so,nx⟩
theorem aS3(st:St)(K:St→Prop):aS2 st K=K st:=by unfold aS2;rw [kT,dV,dQ]
theorem Lp {P:Program} {n0:Nat} {c:RC} {st:St} {K:Ex→St→Prop} {α:Type} (I:α→Prop)(us:α→List (Nat×V))(os:α→List (Nat×Obj))(m:α→Nat)(a0:α)(h0:I a0)(hv:View n0 st (lpF c st (us a0) (os a0)))
 (hb:∀a,I a→aS2 (lpF c st (us a) (os a)) fun st'=>Cd P n0 c st' (aR5 n0 I (fun a=>lpF c st (us a) (os a)) m a K)):aHH P n0 c st K:=
 ⟨α,I,_,m,⟨a0,h0,hv⟩,fun a ha=>by have :=hb a ha;rw [aS3,aOZ] at this;exact this⟩
theorem Vr {n0:Nat} {st st':St} (ids:List (Option Nat))(h:VwP n0 st st' ids:=by
 refine⟨rfl,rfl,?_,?_,?_,?_,?_⟩
 rotate_left 4
 ·repeat' (first |exact trivial |rfl |exact .inl rfl |exact .inr rfl |exact id |exact(fun h=>Bool.noConfusion h)|refine And.intro ?_ ?_ |exact Sd | ((conv=>whnf);exact Sd))
 ·repeat' (first |exact trivial |rfl |exact .inl rfl |exact .inr rfl |exact id |exact(fun h=>Bool.noConfusion h)|refine And.intro ?_ ?_ |exact Sd | ((conv=>whnf);exact Sd))
 ·rfl
 ·repeat' (first |exact trivial |rfl |exact .inl rfl |exact .inr rfl |exact id |exact(fun h=>Bool.noConfusion h)|refine And.intro ?_ ?_ |exact Sd | ((conv=>whnf);exact Sd))
 ·rfl):View n0 st st':=cO ids h.h1 h.h2 h.h3 h.h4 h.h5 h.h6 h.h7
theorem Va {n0:Nat} {st st':St} (h:View n0 st st':=by first |exact Vz [] |exact Vr [some _] |exact Vr [some _,some _] |exact Vr [some _,some _,some _] |exact Vr [some _,some _,some _,some _] |exact Vr [some _,some _,some _,some _,some _] |exact Vr [some _,some _,some _,some _,some _,some _]):View n0 st st':=h
theorem lP {p:Prop} [Decidable p] {A B:Prop} (h:p→A)(k:¬p→B):cq (decide p) A B:=aI (fun e=>h (of_decide_eq_true e)) (fun e=>k (of_decide_eq_false e))
theorem bIG {a b:Int} {A B:Prop} (h:a=b→A)(k:a≠b→B):cq (a==b) A B:=aI (fun e=>h (eq_of_beq e)) (fun e=>k (beq_eq_false_iff_ne.1 e))
theorem bBC {a b:Int} {A B:Prop} (h:a≠b→A)(k:a=b→B):cq (a != b) A B:=aI (fun e=>h (bne_iff_ne.1 e)) (fun e=>k (bne_eq_false_iff_eq.1 e))
theorem Le {α:Type} {n0:Nat} {I:α→Prop} {F:α→St} {m:α→Nat} {a:α} {st:St} (b:α)(hI:I b:=by first |exact Sd | (dsimp only;exact Sd))(hv:View n0 st (F b):=by exact Va)(hm:m b<m a:=by first |exact Sd | (dsimp only;exact Sd)):aBW n0 I F m a st:=⟨b,hI,hv,hm⟩
end Go.Sk
namespace Go.Sk
open Go Go.RowKit
variable [fQ]
theorem Lo {G:Prop} (h:G:=by
 (try refine sQ.mk ?_)
 (repeat((conv=>whnf);first |refine And.intro (fun _=>⟨rfl,Nat.le_of_ble_eq_true rfl⟩) ?_ |refine And.intro (fun _=>Nat.le_of_ble_eq_true rfl) ?_ |refine And.intro (Nat.le_of_ble_eq_true rfl) ?_ |refine And.intro (fun _=>Sd) ?_))
 (conv=>whnf)
 refine⟨[some 0],?_,rfl,?_,rfl,?_⟩
 all_goals(repeat' (first |exact trivial |rfl |exact .inl rfl |exact .inr rfl |exact id |exact(fun h=>Bool.noConfusion h)|refine And.intro ?_ ?_ |exact Sd | ((conv=>whnf);exact Sd)))):G:=h
theorem mkT {b n:Nat} (h:b*n≤1000000)(h0:n≤1000000):mkB b (n:Int)=true:=by
 rw [aLE (by omega)]
 have e:(b:Int)*(n:Int)=((b*n:Nat):Int):=by simp
 rw [e]
 omega
theorem Wo {G:Prop} (h:G:=by
 refine Wx ?_
 exact Lo):G:=h
end Go.Sk
namespace Go.Sk
open Go Go.RowKit
variable [fQ]
def aKH(k:Nat)(l:List Nat)(K:List Nat→Prop):Prop:=match gE k l with
 |true=>K l
 |false=>cL (l++ [k]) K
theorem aVT(k:Nat)(l:List Nat)(K:List Nat→Prop):aKH k l K=K (addN k l):=by
 unfold aKH addN
 cases gE k l with
 |true=>rfl
 |false=>exact eJ _ _
def aSV:V→List Nat→(List Nat→Prop)→Prop
 | .ptr k _ _,l,K=>cG 64 0 k fun k=>aKH k l K
 | .sl k _ _,l,K=>cG 64 0 k fun k=>aKH k l K
 | .slx k _ _,l,K=>cG 64 0 k fun k=>aKH k l K
 | .slk k _ _ _,l,K=>cG 64 0 k fun k=>aKH k l K
 | .mp k,l,K=>cG 64 0 k fun k=>aKH k l K
 |_,l,K=>K l
theorem aGM(v:V)(l:List Nat)(K:List Nat→Prop):aSV v l K=K (nm1 v l):=by
 cases v <;> simp only [aSV,nm1,dQ,aVT]
def aAO:List V→List Nat→(List Nat→Prop)→Prop
 | [],l,K=>K l
 |v::r,l,K=>aSV v l fun l=>aAO r l K
theorem uJ:∀(cs:List V) (l:List Nat) (K:List Nat→Prop),aAO cs l K=K (aJ1 cs l)
 | [],_,_=>rfl
 |v::r,l,K=>by simp only [aAO,aJ1,aGM,uJ r]
def aPV:List V→List Nat→(List Nat→Prop)→Prop
 | [],l,K=>K l
 | .agg cs::r,l,K=>aAO cs l fun l=>aPV r l K
 | .fn _ cs::r,l,K=>aAO cs l fun l=>aPV r l K
 |v::r,l,K=>aSV v l fun l=>aPV r l K
theorem aNM:∀(cs:List V) (l:List Nat) (K:List Nat→Prop),aPV cs l K=K (nm2.nmT cs l)
 | [],_,_=>rfl
 |v::r,l,K=>by cases v <;> simp only [aPV,nm2.nmT,aGM,uJ,aNM r]
def bC6:V→List Nat→(List Nat→Prop)→Prop
 | .agg cs,l,K=>aAO cs l K
 | .fn _ cs,l,K=>aAO cs l K
 | .tup cs,l,K=>aPV cs l K
 |v,l,K=>aSV v l K
theorem aX9(v:V)(l:List Nat)(K:List Nat→Prop):bC6 v l K=K (nm2 v l):=by
 cases v <;> simp only [bC6,nm2,aGM,uJ,aNM]
def aNL:List V→List Nat→(List Nat→Prop)→Prop
 | [],l,K=>K l
 |v::r,l,K=>bC6 v l fun l=>aNL r l K
theorem aJ2:∀(cs:List V) (l:List Nat) (K:List Nat→Prop),aNL cs l K=K (aSW cs l)
 | [],_,_=>rfl
 |v::r,l,K=>by simp only [aNL,aSW,aX9,aJ2 r]
def aPU(S:aC):List Nat→List Nat→(List Nat→Prop)→Prop
 | [],l,K=>K l
 |k::r,l,K=>match S.get k with
  |some (.box cs)=>aAO cs l fun l=>aPU S r l K
  |_=>aPU S r l K
theorem uK(S:aC):∀(r l:List Nat) (K:List Nat→Prop),aPU S r l K=K (nmB S r l)
 | [],_,_=>rfl
 |k::r,l,K=>by
  rw [aPU,nmB]
  cases S.get k with
  |none=>exact uK S r l K
  |some o=>
   cases o with
   |box cs=>
    dsimp only
    rw [uJ,uK S r]
   |_=>exact uK S r l K
def aSK(S:aC)(args:List V)(K:List Nat→Prop):Prop:=aNL args [] fun l=>aPU S l l fun l=>aPU S l l K
theorem aSL(S:aC)(args:List V)(K:List Nat→Prop):aSK S args K=K (aIP S args):=by
 unfold aSK aIP
 rw [aJ2,uK,uK]
theorem ucR {P:Program} {f:FuncId} {args:List V} {S:aC} {m:Nat} {K:V→aC→Nat→Prop} (h:aSK S args fun L=>∃ob0,oU S L L=some ob0∧∃ob1 res,aQ P f ob0 (args.map (arg2 L)) res ob1∧jH L=true∧Nat.ble L.length ob1.length=true∧Nat.ble ob1.length (L.length+16)=true∧K (aBE L m res) (lH S L (ob1.map (lE L m)) m) (m+16)):mX P f args S m K:=by
 rw [aSL] at h
 obtain⟨o0,e,o1,r,h1,h2⟩:=h
 exact⟨_,o0,o1,r,h1,kY e,h2⟩
theorem bH2 {b n:Nat} {K:Prop} (h:b*n≤1000000)(h0:n≤1000000)(k:K):rq (mkB b (n:Int)) K:=by
 rw [mkT h h0];exact k
theorem Wy {G Q:Prop} (q:Q)(h:Hd Q→G:=by
 intro q
 (repeat((conv=>whnf);(fail_if_success refine sQ.mk ?_);(fail_if_success refine aHH.mk ?_);(fail_if_success refine aBW.mk ?_);first |refine Cd.gq ?_ |refine OB.mk Sd ?_ |refine OB.mk (fun _=>Sd) ?_ |refine Exists.intro _ (And.intro Nz ?_)|refine Exists.intro _ (And.intro ixN ?_)|refine Exists.intro _ (And.intro ixL ?_)|refine Exists.intro _ (And.intro (asI (by assumption)) ?_)|refine Or.inl (Exists.intro _ (And.intro (bB4 Sd) ?_))|refine Or.inl (Exists.intro _ (And.intro (by assumption) ?_))|refine Exists.intro true (And.intro rfl ?_)|refine Exists.intro false (And.intro rfl ?_)|refine Exists.intro _ (And.intro Bz ?_)|refine Exists.intro _ (And.intro Nl ?_)|refine Exists.intro _ (And.intro Np ?_)|refine Exists.intro _ (And.intro (aUJ (by assumption) (by omega)) ?_)|refine Exists.intro _ (And.intro rfl ?_)|refine And.intro rfl ?_ |refine aE rfl ?_ |refine aE (bDG _) ?_ |refine bH2 Sd Sd ?_ |refine aE Sd ?_ |refine aM (fun _=>Sd) ?_ |refine .inl ⟨.bool false,fun h=>Bool.noConfusion (show false=true from h),.inr rfl,?_⟩|refine .inl ⟨_,fun _=>⟨aE7 rfl,(by assumption)⟩,.inl rfl,?_⟩| (refine .inr ⟨fun _=>ucR ?_,(by intro h;cases h)⟩;(conv=>whnf);refine Exists.intro _ (And.intro rfl ?_);refine⟨_,_,(by assumption),rfl,(by rfl),(by rfl),?_⟩)|refine aKX (by assumption) ?_ |refine aKW (by assumption) ?_ |refine aRO (by omega) ?_ |refine aRN (by omega) ?_ |refine aKX Sd ?_ |refine aKW Sd ?_ |refine bZ Sd Sd ?_ |refine aFH Sd Sd Sd Sd ?_ |refine And.intro (Nat.le_of_ble_eq_true rfl) ?_ |refine And.intro (.inl rfl) ?_ |refine And.intro (fun _=>⟨rfl,Nat.le_of_ble_eq_true rfl⟩) ?_ |refine And.intro (fun _=>Nat.le_of_ble_eq_true rfl) ?_ |refine And.intro (fun h=>Bool.noConfusion h) ?_ |refine And.intro (fun _=>Sd) ?_ |refine And.intro Sd ?_ |refine .inl ⟨_,fun _=>⟨aE7 rfl,aG7 (by assumption) Ag⟩,.inl rfl,?_⟩))
 (conv=>whnf)
 exact q.h):G:=h ⟨q⟩
theorem Lo5 {G:Prop} (h:G:=by
 (try refine sQ.mk ?_)
 (repeat((conv=>whnf);first |refine And.intro (fun _=>⟨rfl,Nat.le_of_ble_eq_true rfl⟩) ?_ |refine And.intro (fun _=>Nat.le_of_ble_eq_true rfl) ?_ |refine And.intro (Nat.le_of_ble_eq_true rfl) ?_ |refine And.intro (fun _=>Sd) ?_))
 (conv=>whnf)
 refine⟨[some 0,some 1,some 2,some 3,some 4],?_,rfl,?_,rfl,?_⟩
 all_goals(repeat' (first |exact trivial |rfl |exact .inl rfl |exact .inr rfl |exact id |exact(fun h=>Bool.noConfusion h)|refine And.intro ?_ ?_ |exact Sd | ((conv=>whnf);exact Sd)))):G:=h
theorem Wo5 {G:Prop} (h:G:=by
 refine Wy ?_
 exact Lo5):G:=h
end Go.Sk
namespace Go.Sk
open Go Go.RowKit
variable [fQ]
def aKI:Nat→List V
 |0=> []
 |n+1=>.any::aKI n
theorem aDE:∀ {a b:List V} (h:a.length=b.length) (k:Nat) (l:List Nat),aDD a k l=aDD b k l
 | [],[],_,_,_=>rfl
 |_::r,_::s,h,k,l=>by rw [aDD,aDD,aDE (by simpa using h)]
theorem aC0:∀n,(aKI n).length=n
 |0=>rfl
 |n+1=>by rw [aKI,List.length_cons,aC0 n]
structure Rsv(P:Program)(fn:Func)(ks:List Ct)(n:Nat) where
 rc:RC
 rvs:List RV
 h1:fn.results.toList.mapM (iU P)=some rvs
 h2:aGX P fn.ntmps (aDD (aKI n) 0 (jT rvs)) ks (fn.body.getD .skip)=some rc
theorem bR {P:Program} {f:FuncId} {fn:Func} {ks:List Ct} {n:Nat} (R:Rsv P fn ks n) {ob0 ob1:List Obj} {args:List V} {res:V} (hf:P.funcs[f]? =some fn)(hb0:fn.body.isSome=true)(hl:args.length=n)(hn:Nat.ble args.length fn.ntmps=true)
 (hK:cG 16 0 ob0.length fun n0=>Cd P n0 R.rc ⟨eL 0 args,aL 0 ob0,n0⟩ (sQ P n0 R.rvs res ob1)):aQ P f ob0 args res ob1:=by
 refine bM ks hf hb0 R.h1 ?_ hn hK
 rw [aDE (show args.length=(aKI n).length by rw [aC0];exact hl)]
 exact R.h2
end Go.Sk
namespace Go.Sk
open Go Go.RowKit
variable [fQ]
theorem Lo2 {G:Prop} (h:G:=by
 (try refine sQ.mk ?_)
 (repeat((conv=>whnf);first |refine And.intro (fun _=>⟨rfl,Nat.le_of_ble_eq_true rfl⟩) ?_ |refine And.intro (fun _=>Nat.le_of_ble_eq_true rfl) ?_ |refine And.intro (Nat.le_of_ble_eq_true rfl) ?_ |refine And.intro (fun _=>Sd) ?_))
 (conv=>whnf)
 refine⟨[some 0,some 1],?_,rfl,?_,rfl,?_⟩
 all_goals(repeat' (first |exact trivial |rfl |exact .inl rfl |exact .inr rfl |exact id |exact(fun h=>Bool.noConfusion h)|refine And.intro ?_ ?_ |exact Sd | ((conv=>whnf);exact Sd)))):G:=h
theorem Wo2 {G:Prop} (h:G:=by
 refine Wy ?_
 exact Lo2):G:=h
theorem eR {G:Prop} (h:G:=by
 refine Wy ?_
 exact Lz):G:=h
end Go.Sk
namespace Go.Sk
open Go Go.RowKit
variable [fQ]
structure aHJ(P:Program)(fn:Func)(ks:List Ct)(n:Nat) where
 ca:Code
 o:Oper
 g:FuncId
 cb:Code
 rca:RC
 rcb:RC
 rvs:List RV
 h0:aI1 P (fn.body.getD .skip)=some (ca,o,g,cb)
 h1:fn.results.toList.mapM (iU P)=some rvs
 h2:aJH P fn.ntmps (aDD (aKI n) 0 (jT rvs)) ks ca cb=some (rca,rcb)
theorem bD {P:Program} {f:FuncId} {fn:Func} {ks:List Ct} {n:Nat} (R:aHJ P fn ks n) {ob0 ob1:List Obj} {args:List V} {res:V} (hq:Quiet P R.g)(hf:P.funcs[f]? =some fn)(hb0:fn.body.isSome=true)(hl:args.length=n)(hn:Nat.ble args.length fn.ntmps=true)
 (hK:cG 16 0 ob0.length fun n0=>Cd P n0 R.rca ⟨eL 0 args,aL 0 ob0,n0⟩ (bAY P n0 R.rcb (sQ P n0 R.rvs res ob1))):aQ P f ob0 args res ob1:=by
 refine bBM ks hf hb0 R.h0 hq R.h1 ?_ hn (by simpa only [aMJ] using hK)
 rw [aDE (show args.length=(aKI n).length by rw [aC0];exact hl)]
 exact R.h2
end Go.Sk
namespace Go.Sk
open Go Go.RowKit
variable [fQ]
theorem Lo4 {G:Prop} (h:G:=by
 (try refine sQ.mk ?_)
 (repeat((conv=>whnf);first |refine And.intro (fun _=>⟨rfl,Nat.le_of_ble_eq_true rfl⟩) ?_ |refine And.intro (fun _=>Nat.le_of_ble_eq_true rfl) ?_ |refine And.intro (Nat.le_of_ble_eq_true rfl) ?_ |refine And.intro (fun _=>Sd) ?_))
 (conv=>whnf)
 refine⟨[some 0,some 1,some 2,some 3],?_,rfl,?_,rfl,?_⟩
 all_goals(repeat' (first |exact trivial |rfl |exact .inl rfl |exact .inr rfl |exact id |exact(fun h=>Bool.noConfusion h)|refine And.intro ?_ ?_ |exact Sd | ((conv=>whnf);exact Sd)))):G:=h
theorem Wo4 {G:Prop} (h:G:=by
 refine Wy ?_
 exact Lo4):G:=h
end Go.Sk
