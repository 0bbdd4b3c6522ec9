/- Caches. -/
import Derived.Test.YtmhapcbjjpadnaaGreatRows
import Derived.Test.YtmhapcbjjpadnaaGreatG1c
import Derived.ProofKit
import Derived.OpenShut
import Derived.SizedLaws
import Derived.Below
set_option linter.all false
set_option maxRecDepth 40000
open List renaming length_take→zA
namespace Go.Proofs.YtmhapcbjjpadnaaGreat
open Go Go.Sk Go.RowKit Go.ChangeShapes Go.WideShapes Go.ChangeAt
theorem Tryz.own:ownKnob Tryz.prog.godebug=none:=by kernel_rfl
theorem Tryz.laidOut:laidOutB Tryz.prog=true:=by kernel_rfl
theorem Tryz.cells3:Tryz.prog.cellsOf 3=1:=by kernel_rfl
theorem Tryz.bytes3:Tryz.prog.bytesOf 3=8:=by kernel_rfl
theorem bJC {O:Nat->Prop} (K:∀b,¬O b) {W:World} {E:Option Addr} {len cap:Nat} {f:List Int} (G:len<=f.length)(F:len<=cap)
 (j:0<len->∃b off,E=some ⟨b,off,none⟩/\b<W.heap.size/\∀i,i<len->W.cell? ⟨b,off+i,none⟩=some (.int .i64 (f.getD i 0))):
 VR O W (λ_=>none) (.lst 1 false (aB (f.take len))) (.slice E len cap):=by
 by_cases J:len=0
 ·subst J;exact .lst (xs:= []) 0 0 (λ_ _=>undef) (by simp) (by simp) (by simp) (by simp) (by simp) (by simp) (by simp)
 ·obtain⟨b,off,rfl,M,N⟩:=j (by omega);have e:(aB (f.take len)).length=len:=by rw [aA,zA];omega
  have z:=VR.lst (O:=O) (w:=W) (σ:=λ_=>none) (es:=1) (t:=false) (xs:=aB (f.take len)) (a:=some ⟨b,off,none⟩) (cap:=cap) b off (λi _=>.int .i64 (f.getD i 0))
   (λ_=>⟨rfl,K b,M⟩) (λx m=>by obtain⟨n,-,rfl⟩:=List.mem_map.1 m;rfl) (by omega) (by simp)
   (λi c C Q=>by
    obtain rfl:c=0:=by omega
    rw [Nat.mul_one,Nat.add_zero];exact N i (by omega))
   (λi c _ _=>rfl)
   (λi x c y m D=>by
    obtain⟨C,-⟩:=List.getElem?_eq_some_iff.1 m;rw [e] at C;simp only [aB,List.getElem?_map,Option.map_eq_some_iff] at m;obtain⟨n,H,rfl⟩:=m;rw [List.getElem?_take,if_pos C,List.getElem?_eq_getElem (by omega)] at H;obtain rfl:=zsi H;obtain⟨B,-⟩:=List.getElem?_eq_some_iff.1 D;obtain rfl:c=0:=by simp at B;omega
    simp only [List.getElem?_cons_zero,zse] at D;subst D;have :f.getD i 0=f[i]'(by omega):=by simp [List.getD_eq_getElem?_getD,show i<f.length by omega]
    rw [this];exact .int _ _)
  rw [e] at z;exact z
theorem bEP {f:FuncId} {args:List V} {j:Array Value} (h:aM Tryz.prog f [] args (.bool true) [])(W:World)(F:j.size=args.length)
 (E:∀(i:Nat) v c,args[i]? =some v->j[i]? =some c->VR (Own (λ_=>False) (λ_=>none) (aI 0 [])) W (λ_=>none) v c):
 Calls Tryz.prog f j W λe w'=>e=.returned (.bool true)/\Below W.heap.size W w':=by
 have C:∀(σ:Sg) b,¬fD σ (aI 0 []) b:=λσ b ⟨k,o,es,cap,z,_⟩=>by simp [aI,aD.get] at z
 refine(h (λ_=>False) (λ_=>none) W j ⟨λk o z=>by simp [aI,aD.get] at z,λk K o M b es cap D B z=>by simp [aI,aD.get] at z,λk _=>⟨rfl,rfl⟩,λb m=>absurd m (C _ b),λb m=>m.elim,λg H e=>by cases e⟩ F E).mono ?_
 rintro e w' ⟨J,N,rfl,-,G,g⟩;cases G
 exact⟨rfl,(g.keep.wider (O':=λ_=>False) λb m=>C _ b m).below⟩
structure bC3(W:World)(a0:Option Addr)(len cap:Nat)(zs:List Int):Prop where
 le:len<=zs.length
 cap:len<=cap
 cell:0<len->∃b off,a0=some ⟨b,off,none⟩/\b<W.heap.size/\∀i,i<len->W.cell? ⟨b,off+i,none⟩=some (.int .i64 (zs.getD i 0))
 small:(len:Int)<2^62
theorem bAH {H:Type} {enc:TypeId×Value->H} {W:World} {J:Option Addr} {len cap:Nat} {M:DataW H} {p:List MemPlace} {ts:List TypeId} {R:List (DataW H)} (T:DataW.Trod enc Tryz.prog W 0 (λ_=>true) true 22 (.slice J len cap) M p)
 (F:(DataW.weightsEach Tryz.prog (22::ts) (M::R)).all (·<=reachBytes)=true):∃E,bC3 W J len cap E:=by
 obtain⟨N,Y⟩:=T;rcases open_ints Tryz.underlying22 Tryz.underlying3 Tryz.cells3 Y with ⟨z,G⟩| ⟨a,Q,K,E,z,_,hl,hm,hz,G,m,aa⟩
 ·simp [Value.cells] at z;obtain⟨rfl,rfl,rfl⟩:=z;exact⟨[],by simp,by simp,by simp,by decide⟩
 ·simp [Value.cells] at z;obtain⟨rfl,rfl,rfl⟩:=z;simp only [Prod.mk.injEq] at G;obtain⟨rfl,rfl⟩:=G;simp only [if_true] at hz;refine⟨E,by omega,hl,λh=>?_,?_⟩
  ·obtain⟨b,C,D⟩:=a;have B:D=none:=by simpa [Addr.add] using World.cell?_spot (m 0 (by omega))
   subst B;have f:∀j,j<E.length->W.cell? ⟨b,C+j,none⟩=some (.int .i64 (E.getD j 0)):=λj Z=>by rw [<-add_plain];exact m j Z
   exact⟨b,C,rfl,World.block_lt_of_cell? W _ (f 0 (by omega)),λi hi=>f i (by omega)⟩
  ·have O:=sized_slice F (j:=0) (t:=22) (e:=3) rfl rfl Tryz.underlying22;rw [Tryz.bytes3] at O;have :=reachBytes_lt;simp only [lits,List.length_map,zA,List.length_drop] at O;omega
end Go.Proofs.YtmhapcbjjpadnaaGreat
