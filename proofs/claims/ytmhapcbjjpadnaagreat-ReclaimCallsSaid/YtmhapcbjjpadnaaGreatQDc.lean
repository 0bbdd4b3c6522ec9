/- Caches. -/
import Derived.Test.YtmhapcbjjpadnaaGreatQCc
import Derived.Test.YtmhapcbjjpadnaaGreatKAc
set_option linter.all false
set_option maxRecDepth 40000
namespace Go.Proofs.YtmhapcbjjpadnaaGreat
open Go Go.Sk Go.RowKit
theorem Ld3 {G:Prop} (h:G:=by
 (try refine pR.mk ?_)
 (repeat((conv=>whnf);first |refine And.intro (λ_=>⟨rfl,Nat.le_of_ble_eq_true rfl⟩) ?_ |refine And.intro (λ_=>Nat.le_of_ble_eq_true rfl) ?_ |refine And.intro (Nat.le_of_ble_eq_true rfl) ?_ |refine And.intro (λ_=>Sd) ?_))
 (conv=>whnf)
 refine⟨[some 0,some 1,some 2],?_,rfl,?_,rfl,?_⟩
 all_goals(repeat' (first |exact trivial |rfl |exact .inl rfl |exact .inr rfl |exact id |exact zbc |refine And.intro ?_ ?_ |exact Sd | ((conv=>whnf);exact Sd)))):G:=h
theorem bOD(l:List Int):aM Tryz.prog 106 [] [.lst 1 false (aB l)] (.fn 209 [.ptr 0 0 0]) [.box [.lst 1 false (aB l)]]:=by refine aE (ob0:= []) [] Tryz.func106 rfl rfl rfl rfl ?_;exact Wo
noncomputable def R84:Rsv Tryz.prog Tryz.f84 [] 1:=⟨_,_,rfl,rfl⟩
theorem bTH(d:Dc)(t k:Int):aM Tryz.prog 84 [trB 1 d t k,.row 3 (aU d.ls)] [.ptr 0 0 0] (.fn 192 [.ptr 2 0 0]) [trB 1 d t k,.row 3 (aU d.ls),.box [.ptr 0 0 0]]:=by unfold trB;refine cX R84 (ob0:= [_,_]) Tryz.func84 rfl rfl rfl ?_;refine Wy ?_;exact Ld3
theorem bHR(c:Dc)(h:Ok c)(n:Int):FnM Tryz.prog 42 [.row 3 (aU c.ls)] [.agg [.lst 15 false (aX c.fl),.lst 9 false (aO c.fr),.lst 6 false (aK c.zo),.lst 3 false (aQ c.gr),.sl 0 0 c.ls.length,.lst 1 false (aB c.ck),.lst 5 false (aN c.pt)],.int .i64 n] (.tup [.agg (evP c n).1.o1,.int .i64 (evP c n).2]) (evP c n).1.ob1:=by
 have e:((aU c.ls).drop 0).take c.ls.length=aU c.ls:=by rw [List.drop_zero];exact List.take_of_length_le (by rw [bW];exact Nat.le_refl _)
 refine FnM.of ?_ ?_ rfl
 ·show aM Tryz.prog 42 [] [.agg [.lst 15 false (aX c.fl),.lst 9 false (aO c.fr),.lst 6 false (aK c.zo),.lst 3 false (aQ c.gr),.lst 3 false (((aU c.ls).drop 0).take c.ls.length),.lst 1 false (aB c.ck),.lst 5 false (aN c.pt)],.int .i64 n] _ _;rw [e];exact bQQ c h n
 ·have f:Nat.ble (0+c.ls.length) (aU c.ls).length=true:=Nat.ble_eq_true_of_le (by rw [bW];omega);simp only [List.all,puB,aRG,aI,aD.get,f,Bool.and_true,Bool.true_and]
  (simp [f])
noncomputable def c16:Code:=Tryz.f16.body.getD .skip
noncomputable def tL:Code:=Tryz.f192.body.getD .skip
noncomputable def aVC:Code:=Tryz.f209.body.getD .skip
noncomputable def bFS:cQ Tryz.prog Tryz.f209.ntmps [0,1,3] [] (cD [0] aVC):=⟨_,rfl⟩
noncomputable def bFT:cQ Tryz.prog Tryz.f209.ntmps [0,1,3] [] (cD [1,0,0,0] aVC):=⟨_,rfl⟩
noncomputable def aGA:aXI Tryz.prog Tryz.f209.ntmps 6 (cD [1,0,0,1,0,0,0] aVC):=⟨_,_,_,_,_,_,rfl⟩
noncomputable def bFU:cQ Tryz.prog Tryz.f209.ntmps [0,1,3] [] (cD [1,0,0,1,0,0,1] aVC):=⟨_,rfl⟩
noncomputable def bFV:cQ Tryz.prog Tryz.f209.ntmps [0,1,3] [] (cD [1,0,0,1,1] aVC):=⟨_,rfl⟩
noncomputable def bFE:cQ Tryz.prog Tryz.f192.ntmps [1,2] [] (cD [0] tL):=⟨_,rfl⟩
noncomputable def bFF:cQ Tryz.prog Tryz.f192.ntmps [1,2,7] [] (cD [1,0,0] tL):=⟨_,rfl⟩
noncomputable def bFG:cQ Tryz.prog Tryz.f192.ntmps [1,2,7,8] [] (cD [1,0,1,0,0,0] tL):=⟨_,rfl⟩
noncomputable def bFH:cQ Tryz.prog Tryz.f192.ntmps [1,2,7] [] (cD [1,0,1,0,0,1,0] tL):=⟨_,rfl⟩
noncomputable def bFI:cQ Tryz.prog Tryz.f192.ntmps [1,2,7,10,11,12] [] (cD [1,0,1,0,0,1,1,0,0,0] tL):=⟨_,rfl⟩
noncomputable def bFJ:cQ Tryz.prog Tryz.f192.ntmps [1,2,7,10,11,12,13] [] (cD [1,0,1,0,0,1,1,0,0,1,0,0,0] tL):=⟨_,rfl⟩
noncomputable def bFK:cQ Tryz.prog Tryz.f192.ntmps [1,2,7,10,11,12] [] (cD [1,0,1,0,0,1,1,0,0,1,0,0,1,0] tL):=⟨_,rfl⟩
noncomputable def bFL:cQ Tryz.prog Tryz.f192.ntmps [1,2,4,7,10,11,12] [] (cD [1,0,1,0,0,1,1,0,0,1,0,0,1,1,0,0,0] tL):=⟨_,rfl⟩
noncomputable def aG8:aXI Tryz.prog Tryz.f192.ntmps 2 (cD [1,0,1,0,0,1,1,0,0,1,0,0,1,1,0,0,1,0] tL):=⟨_,_,_,_,_,_,rfl⟩
noncomputable def bFM:cQ Tryz.prog Tryz.f192.ntmps [1,2,7,10,11,12] [] (cD [1,0,1,0,0,1,1,0,0,1,0,0,1,1,0,0,1,1] tL):=⟨_,rfl⟩
noncomputable def bFN:cQ Tryz.prog Tryz.f192.ntmps [1,2,7,10,11,12] [] (cD [1,0,1,0,0,1,1,0,0,1,0,0,1,1,1] tL):=⟨_,rfl⟩
noncomputable def bFO:cQ Tryz.prog Tryz.f192.ntmps [1,2,7] [] (cD [1,0,1,0,0,1,1,1] tL):=⟨_,rfl⟩
noncomputable def bFP:cQ Tryz.prog Tryz.f192.ntmps [1,2,35] [] (cD [1,1,0] tL):=⟨_,rfl⟩
noncomputable def bFQ:cQ Tryz.prog Tryz.f192.ntmps [1,2,6] [] (cD [1,1,1,0,0] tL):=⟨_,rfl⟩
noncomputable def aG9:aXI Tryz.prog Tryz.f192.ntmps 9 (cD [1,1,1,0,1,0,0] tL):=⟨_,_,_,_,_,_,rfl⟩
noncomputable def bFR:cQ Tryz.prog Tryz.f192.ntmps [1,2] [] (cD [1,1,1,0,1,0,1] tL):=⟨_,rfl⟩
noncomputable def bLU:cQ Tryz.prog Tryz.f16.ntmps [1,3,5,6,7] [] (cD [0] c16):=⟨_,rfl⟩
noncomputable def bLV:cQ Tryz.prog Tryz.f16.ntmps [1,3,5,6,7,8] [] (cD [1,0] c16):=⟨_,rfl⟩
noncomputable def bLW:cQ Tryz.prog Tryz.f16.ntmps [5,6,7,8] [] (cD [1,1,0] c16):=⟨_,rfl⟩
noncomputable def bLX:cQ Tryz.prog Tryz.f16.ntmps [5,6,7,8,33] [] (cD [1,1,1,0,0] c16):=⟨_,rfl⟩
noncomputable def bLY:cQ Tryz.prog Tryz.f16.ntmps [5,6,7,8,9] [] (cD [1,1,1,0,1,0,0] c16):=⟨_,rfl⟩
noncomputable def bLZ:cQ Tryz.prog Tryz.f16.ntmps [5,6,7,8,9] [] (cD [1,1,1,0,1,0,1] c16):=⟨_,rfl⟩
noncomputable def bM0:cQ Tryz.prog Tryz.f16.ntmps [6,7] [] (cD [1,1,1,1] c16):=⟨_,rfl⟩
section
variable {Γ:Type}
noncomputable def bIB(l n0:Nat)(Rd:Rnd Γ):sZ Γ:= dA (bH Tryz.prog n0 bFS.rc) (fN 0 (aBN n0 (dA (bH Tryz.prog n0 bFT.rc) (dA (fN 1 (dA (aE1 Tryz.prog l Rd aGA.pre aGA.d aGA.g aGA.x aGA.xs aGA.suf []) (bH Tryz.prog n0 bFU.rc))) (bH Tryz.prog n0 bFV.rc)))))
theorem bGA(C:Cy Tryz.prog Γ)(l:Nat)(e:Rnd Γ)(f:kV C l e):aJ C Tryz.f209.ntmps aVC (bIB l C.n0 e):= aJ.sq (aJ.bas bFS (by rfl)) (aJ.bl (aJ.lp (aJ.sq (aJ.bas bFT (by rfl)) (aJ.sq (aJ.bl (aJ.sq (aJ.yldR aGA [] f (by rfl) (by rfl)) (aJ.bas bFU (by rfl)))) (aJ.bas bFV (by rfl))))))
noncomputable def bN8(l n0:Nat)(Rd:Rnd Γ):sZ Γ:=
 dA (bH Tryz.prog n0 bFE.rc) (dA (dA (bH Tryz.prog n0 bFF.rc) (fN 0 (aBN n0 (dA (bH Tryz.prog n0 bFG.rc) (dA (bH Tryz.prog n0 bFH.rc) (dA (fN 1 (dA (bH Tryz.prog n0 bFI.rc)
  (fN 2 (aBN n0 (dA (bH Tryz.prog n0 bFJ.rc) (dA (bH Tryz.prog n0 bFK.rc) (dA (fN 3 (dA (bH Tryz.prog n0 bFL.rc) (dA (aE1 Tryz.prog l Rd aG8.pre aG8.d aG8.g aG8.x aG8.xs aG8.suf []) (bH Tryz.prog n0 bFM.rc)))) (bH Tryz.prog n0 bFN.rc))))))))
  (bH Tryz.prog n0 bFO.rc)))))))
  (dA (bH Tryz.prog n0 bFP.rc) (fN 4 (aEY n0 (aI3 n0 (.t 35) 209 Tryz.f209.ntmps [36,37] (λm=>bH Tryz.prog m bFQ.rc)
   (λm=>fN 5 (dA (aE1 Tryz.prog l Rd aG9.pre aG9.d aG9.g aG9.x aG9.xs aG9.suf []) (bH Tryz.prog m bFR.rc))) bIB)))))
theorem bNL(C:Cy Tryz.prog Γ)(l:Nat)(e:Rnd Γ)(j:C.rd=none)(f:kV C l e):aJ C Tryz.f192.ntmps tL (bN8 l C.n0 e):=
 aJ.sq (aJ.bas bFE (by rfl)) (aJ.sq (aJ.sq (aJ.bas bFF (by rfl)) (aJ.bl (aJ.lp (aJ.sq (aJ.bas bFG (by rfl)) (aJ.sq (aJ.bas bFH (by rfl)) (aJ.sq (aJ.bl (aJ.sq (aJ.bas bFI (by rfl))
  (aJ.bl (aJ.lp (aJ.sq (aJ.bas bFJ (by rfl)) (aJ.sq (aJ.bas bFK (by rfl)) (aJ.sq (aJ.bl (aJ.sq (aJ.bas bFL (by rfl)) (aJ.sq (aJ.yldR aG8 [] f (by rfl) (by rfl)) (aJ.bas bFM (by rfl))))) (aJ.bas bFN (by rfl)))))))))
  (aJ.bas bFO (by rfl))))))))
  (aJ.sq (aJ.bas bFP (by rfl)) (aJ.bl (aJ.vw (aJ.rg j rfl (ps:= #[36,37]) (by decide) Tryz.func209 rfl rfl rfl (λC2 _=>aJ.bas bFQ (by rfl))
   (λC2 u=>aJ.bl (aJ.sq (aJ.yldR aG9 [] (f.under u) (by rfl) (by rfl)) (aJ.bas bFR (by rfl)))) (λm l e _ f=>bGA m l e f))))))
end
noncomputable def S16(n0:Nat):sZ Unit:=
 dA (bH Tryz.prog n0 bLU.rc) (dA (bH Tryz.prog n0 bLV.rc) (dA (bH Tryz.prog n0 bLW.rc) (dA (dA (aEY n0 (bH Tryz.prog n0 bLX.rc)) (fN 0 (aEY n0 (aI3 n0 (.t 33) 192 Tryz.f192.ntmps [34] (λm=>bH Tryz.prog m bLY.rc) (λm=>bH Tryz.prog m bLZ.rc) bN8))))
  (bH Tryz.prog n0 bM0.rc))))
theorem bIP(C:Cy Tryz.prog Unit)(h:C.rd=none):aJ C Tryz.f16.ntmps c16 (S16 C.n0):=
 aJ.sq (aJ.bas bLU (by rfl)) (aJ.sq (aJ.bas bLV (by rfl)) (aJ.sq (aJ.bas bLW (by rfl)) (aJ.sq (aJ.sq (aJ.vw (aJ.bas bLX (by rfl))) (aJ.bl (aJ.vw (aJ.rg h rfl (ps:= #[34]) (by decide) Tryz.func192 rfl rfl rfl (λC2 _=>aJ.bas bLY (by rfl)) (λC2 _=>aJ.bas bLZ (by rfl)) (λm l f e j=>bNL m l f e j)))))
  (aJ.bas bM0 (by rfl)))))
end Go.Proofs.YtmhapcbjjpadnaaGreat
