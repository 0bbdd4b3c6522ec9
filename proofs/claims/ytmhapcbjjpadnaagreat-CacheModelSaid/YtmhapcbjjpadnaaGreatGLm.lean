/- Caches. -/
import Derived.Test.YtmhapcbjjpadnaaGreatRows
import Derived.Test.YtmhapcbjjpadnaaGreatG1m
import Derived.ProofKit
import Derived.OpenShut
import Derived.SizedLaws
import Derived.Below
set_option linter.unusedSimpArgs false
set_option linter.unusedVariables false
open List renaming length_take→zA
set_option linter.constructorNameAsVariable false
set_option maxRecDepth 40000
namespace Go.Proofs.YtmhapcbjjpadnaaGreat
open Go Go.Sk Go.RowKit Go.ChangeShapes Go.WideShapes Go.ChangeAt
theorem Tryz.own:ownKnob Tryz.prog.godebug=none:=by kernel_rfl
theorem Tryz.laidOut:laidOutB Tryz.prog=true:=by kernel_rfl
theorem Tryz.cells3:Tryz.prog.cellsOf 3=1:=by kernel_rfl
theorem Tryz.bytes3:Tryz.prog.bytesOf 3=8:=by kernel_rfl
theorem bBY {O:Nat→Prop} (hO:∀b,¬O b) {W:World} {a0:Option Addr} {len cap:Nat} {zs:List Int} (hlen:len≤zs.length)(hcap:len≤cap)
 (hcell:0<len→∃b off,a0=some ⟨b,off,none⟩∧b<W.heap.size∧∀i,i<len→W.cell? ⟨b,off+i,none⟩=some (.int .i64 (zs.getD i 0))):
 VR O W (fun _=>none) (.lst 1 false (aJ (zs.take len))) (.slice a0 len cap):=by
 by_cases h0:len=0
 ·subst h0
  exact .lst (xs:= []) 0 0 (fun _ _=>undef) (by simp) (by simp) (by simp) (by simp) (by simp) (by simp) (by simp)
 ·obtain⟨b,off,rfl,hb,hc⟩:=hcell (by omega)
  have e:(aJ (zs.take len)).length=len:=by rw [aB,zA];omega
  have key:=VR.lst (O:=O) (w:=W) (σ:=fun _=>none) (es:=1) (t:=false) (xs:=aJ (zs.take len)) (a:=some ⟨b,off,none⟩) (cap:=cap) b off (fun i _=>.int .i64 (zs.getD i 0))
   (fun _=>⟨rfl,hO b,hb⟩) (fun x hx=>by obtain⟨n,-,rfl⟩:=List.mem_map.1 hx;rfl) (by omega) (by simp)
   (fun i c hi hc'=>by
    obtain rfl:c=0:=by omega
    rw [Nat.mul_one,Nat.add_zero];exact hc i (by omega))
   (fun i c _ _=>rfl)
   (fun i x c y hx hy=>by
    obtain⟨hi,-⟩:=List.getElem?_eq_some_iff.1 hx
    rw [e] at hi
    simp only [aJ,List.getElem?_map,Option.map_eq_some_iff] at hx
    obtain⟨n,hn,rfl⟩:=hx
    rw [List.getElem?_take,if_pos hi,List.getElem?_eq_getElem (by omega)] at hn
    obtain rfl:=Option.some.inj hn
    obtain⟨hc1,-⟩:=List.getElem?_eq_some_iff.1 hy
    obtain rfl:c=0:=by simp at hc1;omega
    simp only [List.getElem?_cons_zero,Option.some.injEq] at hy
    subst hy
    have :zs.getD i 0=zs[i]'(by omega):=by simp [List.getD_eq_getElem?_getD,show i<zs.length by omega]
    rw [this];exact .int _ _)
  rw [e] at key
  exact key
theorem aY8 {f:FuncId} {args:List V} {cargs:Array Value} (h:aQ Tryz.prog f [] args (.bool true) [])(W:World)(hn:cargs.size=args.length)
 (ha:∀(i:Nat) v c,args[i]? =some v→cargs[i]? =some c→VR (Own (fun _=>False) (fun _=>none) (aL 0 [])) W (fun _=>none) v c):
 Calls Tryz.prog f cargs W fun e w'=>e=.returned (.bool true)∧Below W.heap.size W w':=by
 have hE:∀(σ:Sg) b,¬gB σ (aL 0 []) b:=fun σ b ⟨k,o,es,cap,hk,_⟩=>by simp [aL,aC.get] at hk
 refine(h (fun _=>False) (fun _=>none) W cargs ⟨fun k o hk=>by simp [aL,aC.get] at hk,fun k k' o o' b es cap es' cap' hk=>by simp [aL,aC.get] at hk,fun k _=>⟨rfl,rfl⟩,fun b hb=>absurd hb (hE _ b),fun b hb=>hb.elim,fun g cs e=>by cases e⟩ hn ha).mono ?_
 rintro e w' ⟨cv,σ',rfl,-,hv,g⟩
 cases hv
 exact⟨rfl,(g.keep.wider (O':=fun _=>False) fun b hb=>hE _ b hb).below⟩
structure aVJ(W:World)(a0:Option Addr)(len cap:Nat)(zs:List Int):Prop where
 le:len≤zs.length
 cap:len≤cap
 cell:0<len→∃b off,a0=some ⟨b,off,none⟩∧b<W.heap.size∧∀i,i<len→W.cell? ⟨b,off+i,none⟩=some (.int .i64 (zs.getD i 0))
 small:(len:Int)<2^62
theorem aTS {H:Type} {enc:TypeId×Value→H} {W:World} {a0:Option Addr} {len cap:Nat} {d0:DataW H} {p:List MemPlace} {ts:List TypeId} {ds:List (DataW H)} (h0:DataW.Trod enc Tryz.prog W 0 (fun _=>true) true 22 (.slice a0 len cap) d0 p)
 (hsz:(DataW.weightsEach Tryz.prog (22::ts) (d0::ds)).all (·≤reachBytes)=true):∃zs,aVJ W a0 len cap zs:=by
 obtain⟨fuel,hf⟩:=h0
 rcases open_ints Tryz.underlying22 Tryz.underlying3 Tryz.cells3 hf with ⟨hcs,hx⟩| ⟨a,len',cap',zs,hcs,_,hl,hm,hz,hx,hcell,hwz⟩
 ·simp [Value.cells] at hcs
  obtain⟨rfl,rfl,rfl⟩:=hcs
  exact⟨[],by simp,by simp,by simp,by decide⟩
 ·simp [Value.cells] at hcs
  obtain⟨rfl,rfl,rfl⟩:=hcs
  simp only [Prod.mk.injEq] at hx
  obtain⟨rfl,rfl⟩:=hx
  simp only [if_true] at hz
  refine⟨zs,by omega,hl,fun h=>?_,?_⟩
  ·obtain⟨b,off,spot⟩:=a
   have hspot:spot=none:=by simpa [Addr.add] using World.cell?_spot (hcell 0 (by omega))
   subst hspot
   have hcell':∀j,j<zs.length→W.cell? ⟨b,off+j,none⟩=some (.int .i64 (zs.getD j 0)):=fun j hj=>by rw [←add_plain];exact hcell j hj
   exact⟨b,off,rfl,World.block_lt_of_cell? W _ (hcell' 0 (by omega)),fun i hi=>hcell' i (by omega)⟩
  ·have hb:=sized_slice hsz (j:=0) (t:=22) (e:=3) rfl rfl Tryz.underlying22
   rw [Tryz.bytes3] at hb
   have :=reachBytes_lt
   simp only [lits,List.length_map,zA,List.length_drop] at hb
   omega
end Go.Proofs.YtmhapcbjjpadnaaGreat
