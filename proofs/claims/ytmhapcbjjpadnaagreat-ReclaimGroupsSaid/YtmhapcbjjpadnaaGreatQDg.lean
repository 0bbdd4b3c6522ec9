/- Caches. -/
import Derived.Test.YtmhapcbjjpadnaaGreatQCg
import Derived.Test.YtmhapcbjjpadnaaGreatKAg
set_option linter.all false
set_option maxRecDepth 40000
namespace Go.Proofs.YtmhapcbjjpadnaaGreat
open Go Go.Sk Go.RowKit
theorem Ld3 {G:Prop} (h:G:=by
 (try refine pG.mk ?_)
 (repeat((conv=>whnf);first |refine And.intro (λ_=>⟨rfl,Nat.le_of_ble_eq_true rfl⟩) ?_ |refine And.intro (λ_=>Nat.le_of_ble_eq_true rfl) ?_ |refine And.intro (Nat.le_of_ble_eq_true rfl) ?_ |refine And.intro (λ_=>Sd) ?_))
 (conv=>whnf)
 refine⟨[some 0,some 1,some 2],?_,rfl,?_,rfl,?_⟩
 all_goals(repeat' (first |exact trivial |rfl |exact .inl rfl |exact .inr rfl |exact id |exact zbc |refine And.intro ?_ ?_ |exact Sd | ((conv=>whnf);exact Sd)))):G:=h
theorem bN2(l:List Int):aM Tryz.prog 106 [] [.lst 1 false (aB l)] (.fn 209 [.ptr 0 0 0]) [.box [.lst 1 false (aB l)]]:=by refine aG (ob0:= []) [] Tryz.func106 rfl rfl rfl rfl ?_;exact Wo
noncomputable def R84:Rsv Tryz.prog Tryz.f84 [] 1:=⟨_,_,rfl,rfl⟩
theorem bS3(d:Dc)(t k:Int):aM Tryz.prog 84 [trB 1 d t k,.row 3 (bA d.ls)] [.ptr 0 0 0] (.fn 192 [.ptr 2 0 0]) [trB 1 d t k,.row 3 (bA d.ls),.box [.ptr 0 0 0]]:=by unfold trB;refine cQ R84 (ob0:= [_,_]) Tryz.func84 rfl rfl rfl ?_;refine Wy ?_;exact Ld3
theorem bH4(c:Dc)(h:Ok c)(n:Int):FnM Tryz.prog 42 [.row 3 (bA c.ls)] [.agg [.lst 15 false (bF c.fl),.lst 9 false (aQ c.fr),.lst 6 false (aJ c.zo),.lst 3 false (aR c.gr),.sl 0 0 c.ls.length,.lst 1 false (aB c.ck),.lst 5 false (aP c.pt)],.int .i64 n] (.tup [.agg (lA c n).1.o1,.int .i64 (lA c n).2]) (lA c n).1.ob1:=by
 have e:((bA c.ls).drop 0).take c.ls.length=bA c.ls:=by rw [List.drop_zero];exact List.take_of_length_le (by rw [bT];exact Nat.le_refl _)
 refine FnM.of ?_ ?_ rfl
 ·show aM Tryz.prog 42 [] [.agg [.lst 15 false (bF c.fl),.lst 9 false (aQ c.fr),.lst 6 false (aJ c.zo),.lst 3 false (aR c.gr),.lst 3 false (((bA c.ls).drop 0).take c.ls.length),.lst 1 false (aB c.ck),.lst 5 false (aP c.pt)],.int .i64 n] _ _;rw [e];exact bPE c h n
 ·have f:Nat.ble (0+c.ls.length) (bA c.ls).length=true:=Nat.ble_eq_true_of_le (by rw [bT];omega);simp only [List.all,puB,aQO,aH,aD.get,f,Bool.and_true,Bool.true_and]
  (simp [f])
noncomputable def c16:Code:=Tryz.f16.body.getD .skip
noncomputable def tD:Code:=Tryz.f192.body.getD .skip
noncomputable def aUF:Code:=Tryz.f209.body.getD .skip
noncomputable def bF9:dR Tryz.prog Tryz.f209.ntmps [0,1,3] [] (cT [0] aUF):=⟨_,rfl⟩
noncomputable def bFA:dR Tryz.prog Tryz.f209.ntmps [0,1,3] [] (cT [1,0,0,0] aUF):=⟨_,rfl⟩
noncomputable def aFJ:aWJ Tryz.prog Tryz.f209.ntmps 6 (cT [1,0,0,1,0,0,0] aUF):=⟨_,_,_,_,_,_,rfl⟩
noncomputable def bFB:dR Tryz.prog Tryz.f209.ntmps [0,1,3] [] (cT [1,0,0,1,0,0,1] aUF):=⟨_,rfl⟩
noncomputable def bFC:dR Tryz.prog Tryz.f209.ntmps [0,1,3] [] (cT [1,0,0,1,1] aUF):=⟨_,rfl⟩
noncomputable def bEV:dR Tryz.prog Tryz.f192.ntmps [1,2] [] (cT [0] tD):=⟨_,rfl⟩
noncomputable def bEW:dR Tryz.prog Tryz.f192.ntmps [1,2,7] [] (cT [1,0,0] tD):=⟨_,rfl⟩
noncomputable def bEX:dR Tryz.prog Tryz.f192.ntmps [1,2,7,8] [] (cT [1,0,1,0,0,0] tD):=⟨_,rfl⟩
noncomputable def bEY:dR Tryz.prog Tryz.f192.ntmps [1,2,7] [] (cT [1,0,1,0,0,1,0] tD):=⟨_,rfl⟩
noncomputable def bEZ:dR Tryz.prog Tryz.f192.ntmps [1,2,7,10,11,12] [] (cT [1,0,1,0,0,1,1,0,0,0] tD):=⟨_,rfl⟩
noncomputable def bF0:dR Tryz.prog Tryz.f192.ntmps [1,2,7,10,11,12,13] [] (cT [1,0,1,0,0,1,1,0,0,1,0,0,0] tD):=⟨_,rfl⟩
noncomputable def bF1:dR Tryz.prog Tryz.f192.ntmps [1,2,7,10,11,12] [] (cT [1,0,1,0,0,1,1,0,0,1,0,0,1,0] tD):=⟨_,rfl⟩
noncomputable def bF2:dR Tryz.prog Tryz.f192.ntmps [1,2,4,7,10,11,12] [] (cT [1,0,1,0,0,1,1,0,0,1,0,0,1,1,0,0,0] tD):=⟨_,rfl⟩
noncomputable def aFH:aWJ Tryz.prog Tryz.f192.ntmps 2 (cT [1,0,1,0,0,1,1,0,0,1,0,0,1,1,0,0,1,0] tD):=⟨_,_,_,_,_,_,rfl⟩
noncomputable def bF3:dR Tryz.prog Tryz.f192.ntmps [1,2,7,10,11,12] [] (cT [1,0,1,0,0,1,1,0,0,1,0,0,1,1,0,0,1,1] tD):=⟨_,rfl⟩
noncomputable def bF4:dR Tryz.prog Tryz.f192.ntmps [1,2,7,10,11,12] [] (cT [1,0,1,0,0,1,1,0,0,1,0,0,1,1,1] tD):=⟨_,rfl⟩
noncomputable def bF5:dR Tryz.prog Tryz.f192.ntmps [1,2,7] [] (cT [1,0,1,0,0,1,1,1] tD):=⟨_,rfl⟩
noncomputable def bF6:dR Tryz.prog Tryz.f192.ntmps [1,2,35] [] (cT [1,1,0] tD):=⟨_,rfl⟩
noncomputable def bF7:dR Tryz.prog Tryz.f192.ntmps [1,2,6] [] (cT [1,1,1,0,0] tD):=⟨_,rfl⟩
noncomputable def aFI:aWJ Tryz.prog Tryz.f192.ntmps 9 (cT [1,1,1,0,1,0,0] tD):=⟨_,_,_,_,_,_,rfl⟩
noncomputable def bF8:dR Tryz.prog Tryz.f192.ntmps [1,2] [] (cT [1,1,1,0,1,0,1] tD):=⟨_,rfl⟩
noncomputable def bL0:dR Tryz.prog Tryz.f16.ntmps [1,3,5,6,7] [] (cT [0] c16):=⟨_,rfl⟩
noncomputable def bL1:dR Tryz.prog Tryz.f16.ntmps [1,3,5,6,7,8] [] (cT [1,0] c16):=⟨_,rfl⟩
noncomputable def bL2:dR Tryz.prog Tryz.f16.ntmps [5,6,7,8] [] (cT [1,1,0] c16):=⟨_,rfl⟩
noncomputable def bL3:dR Tryz.prog Tryz.f16.ntmps [5,6,7,8,33] [] (cT [1,1,1,0,0] c16):=⟨_,rfl⟩
noncomputable def bL4:dR Tryz.prog Tryz.f16.ntmps [5,6,7,8,9] [] (cT [1,1,1,0,1,0,0] c16):=⟨_,rfl⟩
noncomputable def bL5:dR Tryz.prog Tryz.f16.ntmps [5,6,7,8,9] [] (cT [1,1,1,0,1,0,1] c16):=⟨_,rfl⟩
noncomputable def bL6:dR Tryz.prog Tryz.f16.ntmps [6,7] [] (cT [1,1,1,1] c16):=⟨_,rfl⟩
section
variable {Γ:Type}
noncomputable def bHN(l n0:Nat)(Rd:Rnd Γ):sY Γ:= eN (bY Tryz.prog n0 bF9.rc) (iX 0 (aJ8 n0 (eN (bY Tryz.prog n0 bFA.rc) (eN (iX 1 (eN (aDE Tryz.prog l Rd aFJ.pre aFJ.d aFJ.g aFJ.x aFJ.xs aFJ.suf []) (bY Tryz.prog n0 bFB.rc))) (bY Tryz.prog n0 bFC.rc)))))
theorem bFQ(C:Cy Tryz.prog Γ)(l:Nat)(e:Rnd Γ)(f:kM C l e):aK C Tryz.f209.ntmps aUF (bHN l C.n0 e):= aK.sq (aK.bas bF9 (by rfl)) (aK.bl (aK.lp (aK.sq (aK.bas bFA (by rfl)) (aK.sq (aK.bl (aK.sq (aK.yldR aFJ [] f (by rfl) (by rfl)) (aK.bas bFB (by rfl)))) (aK.bas bFC (by rfl))))))
noncomputable def bLX(l n0:Nat)(Rd:Rnd Γ):sY Γ:=
 eN (bY Tryz.prog n0 bEV.rc) (eN (eN (bY Tryz.prog n0 bEW.rc) (iX 0 (aJ8 n0 (eN (bY Tryz.prog n0 bEX.rc) (eN (bY Tryz.prog n0 bEY.rc) (eN (iX 1 (eN (bY Tryz.prog n0 bEZ.rc)
  (iX 2 (aJ8 n0 (eN (bY Tryz.prog n0 bF0.rc) (eN (bY Tryz.prog n0 bF1.rc) (eN (iX 3 (eN (bY Tryz.prog n0 bF2.rc) (eN (aDE Tryz.prog l Rd aFH.pre aFH.d aFH.g aFH.x aFH.xs aFH.suf []) (bY Tryz.prog n0 bF3.rc)))) (bY Tryz.prog n0 bF4.rc))))))))
  (bY Tryz.prog n0 bF5.rc)))))))
  (eN (bY Tryz.prog n0 bF6.rc) (iX 4 (aHY n0 (aHE n0 (.t 35) 209 Tryz.f209.ntmps [36,37] (λm=>bY Tryz.prog m bF7.rc)
   (λm=>iX 5 (eN (aDE Tryz.prog l Rd aFI.pre aFI.d aFI.g aFI.x aFI.xs aFI.suf []) (bY Tryz.prog m bF8.rc))) bHN)))))
theorem bM9(C:Cy Tryz.prog Γ)(l:Nat)(e:Rnd Γ)(j:C.rd=none)(f:kM C l e):aK C Tryz.f192.ntmps tD (bLX l C.n0 e):=
 aK.sq (aK.bas bEV (by rfl)) (aK.sq (aK.sq (aK.bas bEW (by rfl)) (aK.bl (aK.lp (aK.sq (aK.bas bEX (by rfl)) (aK.sq (aK.bas bEY (by rfl)) (aK.sq (aK.bl (aK.sq (aK.bas bEZ (by rfl))
  (aK.bl (aK.lp (aK.sq (aK.bas bF0 (by rfl)) (aK.sq (aK.bas bF1 (by rfl)) (aK.sq (aK.bl (aK.sq (aK.bas bF2 (by rfl)) (aK.sq (aK.yldR aFH [] f (by rfl) (by rfl)) (aK.bas bF3 (by rfl))))) (aK.bas bF4 (by rfl)))))))))
  (aK.bas bF5 (by rfl))))))))
  (aK.sq (aK.bas bF6 (by rfl)) (aK.bl (aK.vw (aK.rg j rfl (ps:= #[36,37]) (by decide) Tryz.func209 rfl rfl rfl (λC2 _=>aK.bas bF7 (by rfl))
   (λC2 u=>aK.bl (aK.sq (aK.yldR aFI [] (f.under u) (by rfl) (by rfl)) (aK.bas bF8 (by rfl)))) (λm l e _ f=>bFQ m l e f))))))
end
noncomputable def S16(n0:Nat):sY Unit:=
 eN (bY Tryz.prog n0 bL0.rc) (eN (bY Tryz.prog n0 bL1.rc) (eN (bY Tryz.prog n0 bL2.rc) (eN (eN (aHY n0 (bY Tryz.prog n0 bL3.rc)) (iX 0 (aHY n0 (aHE n0 (.t 33) 192 Tryz.f192.ntmps [34] (λm=>bY Tryz.prog m bL4.rc) (λm=>bY Tryz.prog m bL5.rc) bLX))))
  (bY Tryz.prog n0 bL6.rc))))
theorem bI0(C:Cy Tryz.prog Unit)(h:C.rd=none):aK C Tryz.f16.ntmps c16 (S16 C.n0):=
 aK.sq (aK.bas bL0 (by rfl)) (aK.sq (aK.bas bL1 (by rfl)) (aK.sq (aK.bas bL2 (by rfl)) (aK.sq (aK.sq (aK.vw (aK.bas bL3 (by rfl))) (aK.bl (aK.vw (aK.rg h rfl (ps:= #[34]) (by decide) Tryz.func192 rfl rfl rfl (λC2 _=>aK.bas bL4 (by rfl)) (λC2 _=>aK.bas bL5 (by rfl)) (λm l f e j=>bM9 m l f e j)))))
  (aK.bas bL6 (by rfl)))))
end Go.Proofs.YtmhapcbjjpadnaaGreat
