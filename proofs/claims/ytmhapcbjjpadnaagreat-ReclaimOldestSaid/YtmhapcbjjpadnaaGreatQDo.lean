/- Caches. -/
import Derived.Test.YtmhapcbjjpadnaaGreatQCo
import Derived.Test.YtmhapcbjjpadnaaGreatKAo
set_option linter.all false
set_option maxRecDepth 40000
namespace Go.Proofs.YtmhapcbjjpadnaaGreat
open Go Go.Sk Go.RowKit
theorem Ld3 {G:Prop} (h:G:=by
 (try refine rU.mk ?_)
 (repeat((conv=>whnf);first |refine And.intro (λ_=>⟨rfl,Nat.le_of_ble_eq_true rfl⟩) ?_ |refine And.intro (λ_=>Nat.le_of_ble_eq_true rfl) ?_ |refine And.intro (Nat.le_of_ble_eq_true rfl) ?_ |refine And.intro (λ_=>Sd) ?_))
 (conv=>whnf)
 refine⟨[some 0,some 1,some 2],?_,rfl,?_,rfl,?_⟩
 all_goals(repeat' (first |exact trivial |rfl |exact .inl rfl |exact .inr rfl |exact id |exact zbc |refine And.intro ?_ ?_ |exact Sd | ((conv=>whnf);exact Sd)))):G:=h
theorem bL9(l:List Int):aN Tryz.prog 106 [] [.lst 1 false (aB l)] (.fn 209 [.ptr 0 0 0]) [.box [.lst 1 false (aB l)]]:=by refine aQ (ob0:= []) [] Tryz.func106 rfl rfl rfl rfl ?_;exact Wo
noncomputable def R84:Rsv Tryz.prog Tryz.f84 [] 1:=⟨_,_,rfl,rfl⟩
theorem bPR(d:Dc)(t k:Int):aN Tryz.prog 84 [trB 1 d t k,.row 3 (bG d.ls)] [.ptr 0 0 0] (.fn 192 [.ptr 2 0 0]) [trB 1 d t k,.row 3 (bG d.ls),.box [.ptr 0 0 0]]:=by unfold trB;refine mR R84 (ob0:= [_,_]) Tryz.func84 rfl rfl rfl ?_;refine Wy ?_;exact Ld3
theorem bF3(c:Dc)(h:Ok c)(n:Int):FnM Tryz.prog 42 [.row 3 (bG c.ls)] [.agg [.lst 15 false (bU c.fl),.lst 9 false (aY c.fr),.lst 6 false (aJ c.zo),.lst 3 false (aR c.gr),.sl 0 0 c.ls.length,.lst 1 false (aB c.ck),.lst 5 false (aU c.pt)],.int .i64 n] (.tup [.agg (jS c n).1.o1,.int .i64 (jS c n).2]) (jS c n).1.ob1:=by
 have e:((bG c.ls).drop 0).take c.ls.length=bG c.ls:=by rw [List.drop_zero];exact List.take_of_length_le (by rw [bW];exact Nat.le_refl _)
 refine FnM.of ?_ ?_ rfl
 ·show aN Tryz.prog 42 [] [.agg [.lst 15 false (bU c.fl),.lst 9 false (aY c.fr),.lst 6 false (aJ c.zo),.lst 3 false (aR c.gr),.lst 3 false (((bG c.ls).drop 0).take c.ls.length),.lst 1 false (aB c.ck),.lst 5 false (aU c.pt)],.int .i64 n] _ _;rw [e];exact bNL c h n
 ·have f:Nat.ble (0+c.ls.length) (bG c.ls).length=true:=Nat.ble_eq_true_of_le (by rw [bW];omega);simp only [List.all,puB,aP8,aF,aD.get,f,Bool.and_true,Bool.true_and]
  (simp [f])
noncomputable def c16:Code:=Tryz.f16.body.getD .skip
noncomputable def sD:Code:=Tryz.f192.body.getD .skip
noncomputable def aSW:Code:=Tryz.f209.body.getD .skip
noncomputable def bD8:dR Tryz.prog Tryz.f209.ntmps [0,1,3] [] (cN [0] aSW):=⟨_,rfl⟩
noncomputable def bD9:dR Tryz.prog Tryz.f209.ntmps [0,1,3] [] (cN [1,0,0,0] aSW):=⟨_,rfl⟩
noncomputable def aEH:aUZ Tryz.prog Tryz.f209.ntmps 6 (cN [1,0,0,1,0,0,0] aSW):=⟨_,_,_,_,_,_,rfl⟩
noncomputable def bDA:dR Tryz.prog Tryz.f209.ntmps [0,1,3] [] (cN [1,0,0,1,0,0,1] aSW):=⟨_,rfl⟩
noncomputable def bDB:dR Tryz.prog Tryz.f209.ntmps [0,1,3] [] (cN [1,0,0,1,1] aSW):=⟨_,rfl⟩
noncomputable def bCU:dR Tryz.prog Tryz.f192.ntmps [1,2] [] (cN [0] sD):=⟨_,rfl⟩
noncomputable def bCV:dR Tryz.prog Tryz.f192.ntmps [1,2,7] [] (cN [1,0,0] sD):=⟨_,rfl⟩
noncomputable def bCW:dR Tryz.prog Tryz.f192.ntmps [1,2,7,8] [] (cN [1,0,1,0,0,0] sD):=⟨_,rfl⟩
noncomputable def bCX:dR Tryz.prog Tryz.f192.ntmps [1,2,7] [] (cN [1,0,1,0,0,1,0] sD):=⟨_,rfl⟩
noncomputable def bCY:dR Tryz.prog Tryz.f192.ntmps [1,2,7,10,11,12] [] (cN [1,0,1,0,0,1,1,0,0,0] sD):=⟨_,rfl⟩
noncomputable def bCZ:dR Tryz.prog Tryz.f192.ntmps [1,2,7,10,11,12,13] [] (cN [1,0,1,0,0,1,1,0,0,1,0,0,0] sD):=⟨_,rfl⟩
noncomputable def bD0:dR Tryz.prog Tryz.f192.ntmps [1,2,7,10,11,12] [] (cN [1,0,1,0,0,1,1,0,0,1,0,0,1,0] sD):=⟨_,rfl⟩
noncomputable def bD1:dR Tryz.prog Tryz.f192.ntmps [1,2,4,7,10,11,12] [] (cN [1,0,1,0,0,1,1,0,0,1,0,0,1,1,0,0,0] sD):=⟨_,rfl⟩
noncomputable def aEF:aUZ Tryz.prog Tryz.f192.ntmps 2 (cN [1,0,1,0,0,1,1,0,0,1,0,0,1,1,0,0,1,0] sD):=⟨_,_,_,_,_,_,rfl⟩
noncomputable def bD2:dR Tryz.prog Tryz.f192.ntmps [1,2,7,10,11,12] [] (cN [1,0,1,0,0,1,1,0,0,1,0,0,1,1,0,0,1,1] sD):=⟨_,rfl⟩
noncomputable def bD3:dR Tryz.prog Tryz.f192.ntmps [1,2,7,10,11,12] [] (cN [1,0,1,0,0,1,1,0,0,1,0,0,1,1,1] sD):=⟨_,rfl⟩
noncomputable def bD4:dR Tryz.prog Tryz.f192.ntmps [1,2,7] [] (cN [1,0,1,0,0,1,1,1] sD):=⟨_,rfl⟩
noncomputable def bD5:dR Tryz.prog Tryz.f192.ntmps [1,2,35] [] (cN [1,1,0] sD):=⟨_,rfl⟩
noncomputable def bD6:dR Tryz.prog Tryz.f192.ntmps [1,2,6] [] (cN [1,1,1,0,0] sD):=⟨_,rfl⟩
noncomputable def aEG:aUZ Tryz.prog Tryz.f192.ntmps 9 (cN [1,1,1,0,1,0,0] sD):=⟨_,_,_,_,_,_,rfl⟩
noncomputable def bD7:dR Tryz.prog Tryz.f192.ntmps [1,2] [] (cN [1,1,1,0,1,0,1] sD):=⟨_,rfl⟩
noncomputable def bJ2:dR Tryz.prog Tryz.f16.ntmps [1,3,5,6,7] [] (cN [0] c16):=⟨_,rfl⟩
noncomputable def bJ3:dR Tryz.prog Tryz.f16.ntmps [1,3,5,6,7,8] [] (cN [1,0] c16):=⟨_,rfl⟩
noncomputable def bJ4:dR Tryz.prog Tryz.f16.ntmps [5,6,7,8] [] (cN [1,1,0] c16):=⟨_,rfl⟩
noncomputable def bJ5:dR Tryz.prog Tryz.f16.ntmps [5,6,7,8,33] [] (cN [1,1,1,0,0] c16):=⟨_,rfl⟩
noncomputable def bJ6:dR Tryz.prog Tryz.f16.ntmps [5,6,7,8,9] [] (cN [1,1,1,0,1,0,0] c16):=⟨_,rfl⟩
noncomputable def bJ7:dR Tryz.prog Tryz.f16.ntmps [5,6,7,8,9] [] (cN [1,1,1,0,1,0,1] c16):=⟨_,rfl⟩
noncomputable def bJ8:dR Tryz.prog Tryz.f16.ntmps [6,7] [] (cN [1,1,1,1] c16):=⟨_,rfl⟩
section
variable {Γ:Type}
noncomputable def bFN(l n0:Nat)(Rd:Rnd Γ):rZ Γ:= eK (bY Tryz.prog n0 bD8.rc) (iT 0 (aI7 n0 (eK (bY Tryz.prog n0 bD9.rc) (eK (iT 1 (eK (aCB Tryz.prog l Rd aEH.pre aEH.d aEH.g aEH.x aEH.xs aEH.suf []) (bY Tryz.prog n0 bDA.rc))) (bY Tryz.prog n0 bDB.rc)))))
theorem bDR(C:Cy Tryz.prog Γ)(l:Nat)(e:Rnd Γ)(f:kG C l e):aI C Tryz.f209.ntmps aSW (bFN l C.n0 e):= aI.sq (aI.bas bD8 (by rfl)) (aI.bl (aI.lp (aI.sq (aI.bas bD9 (by rfl)) (aI.sq (aI.bl (aI.sq (aI.yldR aEH [] f (by rfl) (by rfl)) (aI.bas bDA (by rfl)))) (aI.bas bDB (by rfl))))))
noncomputable def bJZ(l n0:Nat)(Rd:Rnd Γ):rZ Γ:=
 eK (bY Tryz.prog n0 bCU.rc) (eK (eK (bY Tryz.prog n0 bCV.rc) (iT 0 (aI7 n0 (eK (bY Tryz.prog n0 bCW.rc) (eK (bY Tryz.prog n0 bCX.rc) (eK (iT 1 (eK (bY Tryz.prog n0 bCY.rc)
  (iT 2 (aI7 n0 (eK (bY Tryz.prog n0 bCZ.rc) (eK (bY Tryz.prog n0 bD0.rc) (eK (iT 3 (eK (bY Tryz.prog n0 bD1.rc) (eK (aCB Tryz.prog l Rd aEF.pre aEF.d aEF.g aEF.x aEF.xs aEF.suf []) (bY Tryz.prog n0 bD2.rc)))) (bY Tryz.prog n0 bD3.rc))))))))
  (bY Tryz.prog n0 bD4.rc)))))))
  (eK (bY Tryz.prog n0 bD5.rc) (iT 4 (aGV n0 (aGB n0 (.t 35) 209 Tryz.f209.ntmps [36,37] (λm=>bY Tryz.prog m bD6.rc)
   (λm=>iT 5 (eK (aCB Tryz.prog l Rd aEG.pre aEG.d aEG.g aEG.x aEG.xs aEG.suf []) (bY Tryz.prog m bD7.rc))) bFN)))))
theorem bKE(C:Cy Tryz.prog Γ)(l:Nat)(e:Rnd Γ)(j:C.rd=none)(f:kG C l e):aI C Tryz.f192.ntmps sD (bJZ l C.n0 e):=
 aI.sq (aI.bas bCU (by rfl)) (aI.sq (aI.sq (aI.bas bCV (by rfl)) (aI.bl (aI.lp (aI.sq (aI.bas bCW (by rfl)) (aI.sq (aI.bas bCX (by rfl)) (aI.sq (aI.bl (aI.sq (aI.bas bCY (by rfl))
  (aI.bl (aI.lp (aI.sq (aI.bas bCZ (by rfl)) (aI.sq (aI.bas bD0 (by rfl)) (aI.sq (aI.bl (aI.sq (aI.bas bD1 (by rfl)) (aI.sq (aI.yldR aEF [] f (by rfl) (by rfl)) (aI.bas bD2 (by rfl))))) (aI.bas bD3 (by rfl)))))))))
  (aI.bas bD4 (by rfl))))))))
  (aI.sq (aI.bas bD5 (by rfl)) (aI.bl (aI.vw (aI.rg j rfl (ps:= #[36,37]) (by decide) Tryz.func209 rfl rfl rfl (λC2 _=>aI.bas bD6 (by rfl))
   (λC2 u=>aI.bl (aI.sq (aI.yldR aEG [] (f.under u) (by rfl) (by rfl)) (aI.bas bD7 (by rfl)))) (λm l e _ f=>bDR m l e f))))))
end
noncomputable def S16(n0:Nat):rZ Unit:=
 eK (bY Tryz.prog n0 bJ2.rc) (eK (bY Tryz.prog n0 bJ3.rc) (eK (bY Tryz.prog n0 bJ4.rc) (eK (eK (aGV n0 (bY Tryz.prog n0 bJ5.rc)) (iT 0 (aGV n0 (aGB n0 (.t 33) 192 Tryz.f192.ntmps [34] (λm=>bY Tryz.prog m bJ6.rc) (λm=>bY Tryz.prog m bJ7.rc) bJZ))))
  (bY Tryz.prog n0 bJ8.rc))))
theorem bG0(C:Cy Tryz.prog Unit)(h:C.rd=none):aI C Tryz.f16.ntmps c16 (S16 C.n0):=
 aI.sq (aI.bas bJ2 (by rfl)) (aI.sq (aI.bas bJ3 (by rfl)) (aI.sq (aI.bas bJ4 (by rfl)) (aI.sq (aI.sq (aI.vw (aI.bas bJ5 (by rfl))) (aI.bl (aI.vw (aI.rg h rfl (ps:= #[34]) (by decide) Tryz.func192 rfl rfl rfl (λC2 _=>aI.bas bJ6 (by rfl)) (λC2 _=>aI.bas bJ7 (by rfl)) (λm l f e j=>bKE m l f e j)))))
  (aI.bas bJ8 (by rfl)))))
end Go.Proofs.YtmhapcbjjpadnaaGreat
