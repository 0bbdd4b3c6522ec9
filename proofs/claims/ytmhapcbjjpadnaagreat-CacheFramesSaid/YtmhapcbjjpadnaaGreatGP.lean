/- Caches. -/
import Derived.Test.YtmhapcbjjpadnaaGreatGO
import Derived.Test.YtmhapcbjjpadnaaGreatXYA
set_option linter.unusedSimpArgs false
set_option linter.unusedVariables false
set_option maxRecDepth 40000
namespace Go.Proofs.YtmhapcbjjpadnaaGreat
open Go Go.Sk Go.RowKit
theorem aTW(a b:Dc)(h:Ok b)(hs:Sim a b)(e:Int):aN Tryz.prog 41 [] [.agg a.c,.agg b.c,.int .i64 e,.int .i64 e] (.bool true) []:=by
 have k18:=bFN a b h hs
 refine aJ (ob0:= []) [] Tryz.func41 rfl rfl rfl rfl ?_
 exact qA
theorem aSZ(L:List Int) {J:Nat} (hL:(L.length:Int)<2^62)(hJ:J≤L.length):∃(v:Int) (J':Nat),J'≤L.length∧aN Tryz.prog 34 [jF L J] [.ptr 0 0 0] (.int .i64 v) [jF L J']:=
 ⟨_,_,aM2 L J hJ,bJ6 L J hL hJ⟩
noncomputable def R7:Rsv Tryz.prog Tryz.f7 [.c 56] 1:=⟨_,_,rfl,rfl⟩
set_option maxHeartbeats 16000000 in
theorem ok7(L:List Int)(hL:(L.length:Int)<2^62):aN Tryz.prog 7 [] [.lst 1 false (aE L)] (.bool true) []:=by
 obtain⟨c,J0,hd,hJ0,k39⟩:=bJ8 L hL
 obtain⟨hok,hcf,hcg,hcz,hcr⟩:=hd.ok
 have hM:=hd.okM
 have hnr:=hok.nr
 clear hd
 obtain⟨f,J1,hf,hJ1,k1⟩:=draw L hL hJ0 5 (by decide) (by decide)
 obtain⟨p,J2,hp,hJ2,k2⟩:=draw L hL hJ1 10 (by decide) (by decide)
 obtain⟨n,J3,hn,hJ3,k3⟩:=draw L hL hJ2 ((c.fr.length+3:Nat):Int) (by omega) (by omega)
 obtain⟨t,J4,ht,hJ4,k4⟩:=draw L hL hJ3 4 (by decide) (by decide)
 obtain⟨q,J5,hq,hJ5,k5⟩:=draw L hL hJ4 4 (by decide) (by decide)
 obtain⟨u,J6,hu,hJ6,k6⟩:=draw L hL hJ5 2 (by decide) (by decide)
 obtain⟨s,J7,hs,hJ7,k7⟩:=draw L hL hJ6 6 (by decide) (by decide)
 obtain⟨b,J8,hb,hJ8,k8⟩:=draw L hL hJ7 9 (by decide) (by decide)
 obtain⟨o,J9,ho,hJ9,k9⟩:=draw L hL hJ8 9 (by decide) (by decide)
 obtain⟨v1,JA,hJA,kA⟩:=aSZ L hL hJ9
 obtain⟨v2,JB,hJB,kB⟩:=aSZ L hL hJA
 refine cW R7 (ob0:= []) Tryz.func7 rfl rfl rfl ?_
 refine Wy ?_
 refine⟨Nat×Int×Int,fun x=>x.1≤L.length,fun x=>⟨[(2,⟨[],true,.bool false⟩),(3,⟨[],true,.ptr 1 0 0⟩),(4,⟨[],true,.ptr 0 0 0⟩),(5,⟨[],true,.int .i64 ((f:Int)-1)⟩),(6,⟨[],true,.int .i64 ((p:Int)-1)⟩),(7,⟨[],true,.int .i64 x.2.1⟩),(8,⟨[],true,.int .i64 ((t:Int)-1)⟩),(9,⟨[],true,.int .i64 ((q:Int)-1)⟩),(10,⟨[],true,.bool ((u:Int)==0)⟩),(11,⟨[],true,.int .i64 ((s:Int)-1)⟩),(12,⟨[],true,.int .i64 x.2.2⟩)],[(0,jF L x.1),(1,.box c.c)],2⟩,?_,fun x hx=>?_⟩
 ·refine Wy ?_
  refine bB2 (fun e=>?_) (fun e=>?_)
  ·refine Wy ?_
   refine⟨(JB,v2,v1),hJB,?_⟩
   exact Vr [_,_]
  ·refine Wy ?_
   refine⟨(J9,(n:Int)-1,(b:Int)-4),hJ9,?_⟩
   exact Vr [_,_]
 clear k39 k1 k2 k3 k4 k5 k6 k7 k8 k9 kA kB
 obtain⟨J,n,b⟩:=x
 have hJ:J≤L.length:=hx
 dsimp only
 obtain⟨w,Ja,hw,hJa,ka⟩:=draw L hL hJ 4 (by decide) (by decide)
 have k38:=bJ7
 have k40:=bJ9 c hok ((f:Int)-1) ((p:Int)-1) ((t:Int)-1) ((q:Int)-1) ((u:Int)==0)
 have k30:=bCL c hok ((f:Int)-1) ((p:Int)-1) ((t:Int)-1) ((q:Int)-1) ((u:Int)==0)
 obtain⟨s1,e1⟩:=aWS hok ((f:Int)-1) ((p:Int)-1) ((t:Int)-1) ((q:Int)-1) ((u:Int)==0)
 have c1:=aTW _ _ (uJ hok ((f:Int)-1) ((p:Int)-1) ((t:Int)-1) ((q:Int)-1) ((u:Int)==0)) s1 (gF c ((f:Int)-1) ((p:Int)-1) ((t:Int)-1) ((q:Int)-1) ((u:Int)==0)).2.2
 rw [e1] at k40
 clear s1 e1
 generalize(aD6 c ((f:Int)-1) ((p:Int)-1) ((t:Int)-1) ((q:Int)-1) ((u:Int)==0)).1=a1 at *
 generalize gF c ((f:Int)-1) ((p:Int)-1) ((t:Int)-1) ((q:Int)-1) ((u:Int)==0)=b1 at *
 have k42:=bJA c hok n
 have k43:=bAB c hok n
 obtain⟨s2,e2⟩:=bB8 hok n
 have c2:=aTW _ _ (aRY hok n) s2 (evG c n).2
 rw [e2] at k42
 clear s2 e2
 generalize(evP c n).1=a2 at *
 generalize evG c n=b2 at *
 have k44:=bJC c hok n b
 have k45:=bAC c hok n b
 obtain⟨s3,e3⟩:=aWK hok hM n b
 have c3:=aTW _ _ (aNC hok n b) s3 (qX c n b).2
 rw [e3] at k44
 clear s3 e3
 generalize(aJB c n b).1=a3 at *
 generalize qX c n b=b3 at *
 have k46:=bJE c hok n ((s:Int)-1)
 have k47:=aO0 c hok n ((s:Int)-1)
 obtain⟨s4,e4⟩:=bCW hok hM n ((s:Int)-1)
 have c4:=aTW _ _ (aAE hok n ((s:Int)-1)) s4 (rbG c n ((s:Int)-1)).2
 rw [e4] at k46
 clear s4 e4
 generalize(rbP c n ((s:Int)-1)).1=a4 at *
 generalize rbG c n ((s:Int)-1)=b4 at *
 have key:∀(l:Nat),l≤16→∃(D:ByteArray) (Jb Jc v:Nat),aN Tryz.prog 48 [jF L Ja] [.ptr 0 0 0,.int .i64 (l:Int)] (.str D) [jF L Jb]∧aN Tryz.prog 15 [jF L Jb] [.ptr 0 0 0,.int .i64 2] (.int .i64 (v:Int)) [jF L Jc]:=fun l hl=>by
  obtain⟨D,Jb,-,hJb,kb⟩:=bH8 L hL hJa l (by omega)
  obtain⟨v,Jc,-,-,kc⟩:=draw L hL hJb 2 (by decide) (by decide)
  exact⟨D,Jb,Jc,v,kb,kc⟩
 have hw:w=0∨w=1∨w=2∨w=3:=by omega
 obtain⟨D,Jb,Jc,v,kb,kc⟩:=key (bif decide (w<3) then 16 else 9) (by cases decide (w<3)<;> decide)
 clear key
 have k49:=bJG c hok n D ((v:Int)==0)
 have k50:=aO1 c hok n D ((v:Int)==0)
 obtain⟨s5,e5⟩:=bD3 hok hM n D ((v:Int)==0)
 have c5:=aTW _ _ (aME hok n D ((v:Int)==0)) s5 (reG c n D ((v:Int)==0)).2
 rw [e5] at k49
 clear s5 e5
 generalize(reP c n D ((v:Int)==0)).1=a5 at *
 generalize reG c n D ((v:Int)==0)=b5 at *
 clear hok hM hJ hx
 rcases hw with rfl |rfl |rfl |rfl
 all_goals
  refine Wy ?_
  exact Lz
end Go.Proofs.YtmhapcbjjpadnaaGreat
