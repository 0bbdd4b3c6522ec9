/- Caches. -/
import Derived.Test.YtmhapcbjjpadnaaGreatK2m
set_option linter.unusedSimpArgs false
set_option linter.unusedVariables false
open Array renaming toList_extract→yJ,size_append→yP,toList_map→yV
open Bool renaming not_eq_true'→yS,and_eq_true→yX
open List renaming mem_of_getElem?→zC,getElem?_map→zD,getElem?_eq_getElem→zE,getElem?_cons_zero→zG,getElem?_cons_succ→zH,getElem?_append→zI,mem_of_mem_take→zJ,getElem?_toArray→zK,take_append_drop→zN,getElem?_take→zO,take_zero→zP,append_nil→zQ,getElem?_eq_none→zR,size_toArray→zS,mem_of_mem_drop→zT,getElem?_of_mem→zU,getElem?_drop→zX,length_map→yC,getD_eq_getElem?_getD→yD,append_assoc→yE,map_toArray→yF,length_cons→yG,length_replicate→yH,drop_zero→yI,replicate→yK,mem_cons_of_mem→yL,map_cons→yN,length_append→yO,map_nil→yR,take_length→yT,length_take→yU,getElem_mem→yW
open Nat renaming mul_le_mul_right→zF,add_mul→zL,sub_zero→zM,zero_le→zV,add_zero→zW,le_refl→zY,min_zero→zZ,eq_of_beq_eq_true→yA,one_mul→yB,min→yM,zero_add→yQ
open Option renaming map_eq_some_iff→zA
set_option linter.unusedSectionVars false
namespace Go.Sk
open Go Go.RowKit
variable [fQ]
section
variable {P:Program} {U:Nat→Prop} {σ:Sg} {S:aC} {w:World} {n m:Nat} {ρ:Operand→Value} {e:A→V} {K:V→aC→Nat→Prop}
theorem aS.move(hR:aS U σ S w n)(hfree:S.get m=none∧σ m=none) {k:Nat} {o0 o:Obj} (hk:S.get k=some o0) {b es cap:Nat} (hs:σ k=some (some b,es,cap)) {w':World}
 (hos:w'.os=w.os) (htape:w'.tape=w.tape) (hout:w'.output=w.output) (hsize:w'.heap.size=w.heap.size) (hother:∀j,j≠b→w'.heap[j]? =w.heap[j]?)
 (ho:bL σ S w n (σ.put m (some b,es,cap)) ((S.del k).set m o) w' (max n (m+1))→jV (Own U (σ.put m (some b,es,cap)) ((S.del k).set m o)) w' (σ.put m (some b,es,cap)) (some (some b,es,cap)) o):
 bL σ S w n (σ.put m (some b,es,cap)) ((S.del k).set m o) w' (max n (m+1))∧aS U (σ.put m (some b,es,cap)) ((S.del k).set m o) w' (max n (m+1)):=by
 have hget:∀j p,((S.del k).set m o).get j=some p→(j=m∧p=o)∨(j≠m∧j≠k∧S.get j=some p):=by
  intro j p hj
  rw [aC.get_set] at hj
  split at hj
  ·rename_i h;exact .inl ⟨h,(Option.some.inj hj).symm⟩
  ·rename_i h
   rw [aC.get_del] at hj
   split at hj
   ·cases hj
   ·rename_i h2;exact .inr ⟨h,h2,hj⟩
 have g:bL σ S w n (σ.put m (some b,es,cap)) ((S.del k).set m o) w' (max n (m+1)):=by
  refine⟨⟨hos,htape,hout,by omega,fun c _ hc=>hother c fun h=>hc (h▸⟨k,o0,es,cap,hk,hs⟩)⟩,fun c hc hO=>?_,fun j hj=>Sg.put_other _ _ (fun e=>hj (e▸hfree.2)),by omega⟩
  obtain⟨j,p,e1,c1,hj,hsj⟩:=hO
  rcases hget j p hj with ⟨rfl,-⟩| ⟨h1,h2,h3⟩
  ·rw [Sg.put_same] at hsj
   simp only [Option.some.injEq,Prod.mk.injEq] at hsj
   obtain⟨rfl,-,-⟩:=hsj
   exact⟨k,o0,es,cap,hk,hs⟩
  ·rw [Sg.put_other _ _ h1] at hsj
   exact⟨j,p,e1,c1,h3,hsj⟩
 refine⟨g,hR.step g (fun j hj=>?_) (fun j j' p p' c e1 c1 e2 c2 h1 h1' hs1 hs1'=>?_) fun j p hj=>?_⟩
 ·rw [aC.get_set,if_neg (by omega),Sg.put_other _ _ (by omega),aC.get_del]
  refine⟨?_,(hR.fresh j (by omega)).2⟩
  split
  ·rfl
  ·exact(hR.fresh j (by omega)).1
 ·rcases hget j p h1 with ⟨rfl,-⟩| ⟨a1,a2,a3⟩<;> rcases hget j' p' h1' with ⟨rfl,-⟩| ⟨a1',a2',a3'⟩
  ·rfl
  ·rw [Sg.put_same] at hs1
   rw [Sg.put_other _ _ a1'] at hs1'
   simp only [Option.some.injEq,Prod.mk.injEq] at hs1
   obtain⟨rfl,-,-⟩:=hs1
   exact absurd (hR.inj j' k p' o0 b e2 c2 es cap a3' hk hs1' hs) a2'
  ·rw [Sg.put_same] at hs1'
   rw [Sg.put_other _ _ a1] at hs1
   simp only [Option.some.injEq,Prod.mk.injEq] at hs1'
   obtain⟨rfl,-,-⟩:=hs1'
   exact absurd (hR.inj j k p o0 b e1 c1 es cap a3 hk hs1 hs) a2
  ·rw [Sg.put_other _ _ a1] at hs1
   rw [Sg.put_other _ _ a1'] at hs1'
   exact hR.inj j j' p p' c e1 c1 e2 c2 a3 a3' hs1 hs1'
 ·rcases hget j p hj with ⟨rfl,rfl⟩| ⟨a1,a2,a3⟩
  ·right;rw [Sg.put_same];exact ho g
  ·left
   refine⟨a3,fun c e1 c1 hs1=>hother c fun hcb=>a2 ?_⟩
   subst hcb
   exact hR.inj j k p o0 c e1 c1 es cap a3 hk hs1 hs
theorem aS.moveC(cap2:Nat)(hR:aS U σ S w n)(hfree:S.get m=none∧σ m=none) {k:Nat} {o0 o:Obj} (hk:S.get k=some o0) {b es cap:Nat} (hs:σ k=some (some b,es,cap)) {w':World}
 (hos:w'.os=w.os) (htape:w'.tape=w.tape) (hout:w'.output=w.output) (hsize:w'.heap.size=w.heap.size) (hother:∀j,j≠b→w'.heap[j]? =w.heap[j]?)
 (ho:bL σ S w n (σ.put m (some b,es,cap2)) ((S.del k).set m o) w' (max n (m+1))→jV (Own U (σ.put m (some b,es,cap2)) ((S.del k).set m o)) w' (σ.put m (some b,es,cap2)) (some (some b,es,cap2)) o):
 bL σ S w n (σ.put m (some b,es,cap2)) ((S.del k).set m o) w' (max n (m+1))∧aS U (σ.put m (some b,es,cap2)) ((S.del k).set m o) w' (max n (m+1)):=by
 have hget:∀j p,((S.del k).set m o).get j=some p→(j=m∧p=o)∨(j≠m∧j≠k∧S.get j=some p):=by
  intro j p hj
  rw [aC.get_set] at hj
  split at hj
  ·rename_i h;exact .inl ⟨h,(Option.some.inj hj).symm⟩
  ·rename_i h
   rw [aC.get_del] at hj
   split at hj
   ·cases hj
   ·rename_i h2;exact .inr ⟨h,h2,hj⟩
 have g:bL σ S w n (σ.put m (some b,es,cap2)) ((S.del k).set m o) w' (max n (m+1)):=by
  refine⟨⟨hos,htape,hout,by omega,fun c _ hc=>hother c fun h=>hc (h▸⟨k,o0,es,cap,hk,hs⟩)⟩,fun c hc hO=>?_,fun j hj=>Sg.put_other _ _ (fun e=>hj (e▸hfree.2)),by omega⟩
  obtain⟨j,p,e1,c1,hj,hsj⟩:=hO
  rcases hget j p hj with ⟨rfl,-⟩| ⟨h1,h2,h3⟩
  ·rw [Sg.put_same] at hsj
   simp only [Option.some.injEq,Prod.mk.injEq] at hsj
   obtain⟨rfl,-,-⟩:=hsj
   exact⟨k,o0,es,cap,hk,hs⟩
  ·rw [Sg.put_other _ _ h1] at hsj
   exact⟨j,p,e1,c1,h3,hsj⟩
 refine⟨g,hR.step g (fun j hj=>?_) (fun j j' p p' c e1 c1 e2 c2 h1 h1' hs1 hs1'=>?_) fun j p hj=>?_⟩
 ·rw [aC.get_set,if_neg (by omega),Sg.put_other _ _ (by omega),aC.get_del]
  refine⟨?_,(hR.fresh j (by omega)).2⟩
  split
  ·rfl
  ·exact(hR.fresh j (by omega)).1
 ·rcases hget j p h1 with ⟨rfl,-⟩| ⟨a1,a2,a3⟩<;> rcases hget j' p' h1' with ⟨rfl,-⟩| ⟨a1',a2',a3'⟩
  ·rfl
  ·rw [Sg.put_same] at hs1
   rw [Sg.put_other _ _ a1'] at hs1'
   simp only [Option.some.injEq,Prod.mk.injEq] at hs1
   obtain⟨rfl,-,-⟩:=hs1
   exact absurd (hR.inj j' k p' o0 b e2 c2 es cap a3' hk hs1' hs) a2'
  ·rw [Sg.put_same] at hs1'
   rw [Sg.put_other _ _ a1] at hs1
   simp only [Option.some.injEq,Prod.mk.injEq] at hs1'
   obtain⟨rfl,-,-⟩:=hs1'
   exact absurd (hR.inj j k p o0 b e1 c1 es cap a3 hk hs1 hs) a2
  ·rw [Sg.put_other _ _ a1] at hs1
   rw [Sg.put_other _ _ a1'] at hs1'
   exact hR.inj j j' p p' c e1 c1 e2 c2 a3 a3' hs1 hs1'
 ·rcases hget j p hj with ⟨rfl,rfl⟩| ⟨a1,a2,a3⟩
  ·right;rw [Sg.put_same];exact ho g
  ·left
   refine⟨a3,fun c e1 c1 hs1=>hother c fun hcb=>a2 ?_⟩
   subst hcb
   exact hR.inj j k p o0 c e1 c1 es cap a3 hk hs1 hs
theorem pQ(size:Nat)(base:Option Addr)(len cap:Nat):(Builtin.firstCells size 0 (.slice base len cap)).run P w=.ok #[] w:=by
 cases base with
 |none=>simp [Builtin.firstCells]
 |some a=>simp [Builtin.firstCells,loadCells,loadCellsFrom]
theorem iA(w:World)(need old:Nat)(el:TypeId):need≤grownCap w need old el:=by
 unfold grownCap
 simp only [Question.cut]
 omega
theorem mD(w:World)(need old:Nat)(el:TypeId)(h:need≤9223372036854775807):need≤grownCap w need old el∧grownCap w need old el≤9223372036854775807:=by
 have hlt:=Nat.mod_lt (w.tape w.drawn (.appendCap need old el)) (show 0<2^63-need by omega)
 simp only [grownCap,Question.cut] at *
 omega
def iJ(S:aC):List Nat→aC
 | []=>S
 |k::r=>(iJ S r).del k
theorem fT {S:aC} :∀ {l:List Nat} {k:Nat} {o:Obj},(iJ S l).get k=some o→S.get k=some o∧k∉l
 | [],_,_,h=>⟨h,by simp⟩
 |a::r,k,o,h=>by
  simp only [iJ,aC.get_del] at h
  split at h
  ·cases h
  ·rename_i hne
   obtain⟨h1,h2⟩:=fT h
   exact⟨h1,by simp [hne,h2]⟩
theorem aPA {S:aC} {k:Nat} (h:S.get k=none)(l:List Nat):(iJ S l).get k=none:=by
 cases h':(iJ S l).get k with
 |none=>rfl
 |some o=>rw [(fT h').1] at h;cases h
theorem mZ {Fz:List Nat} {b:Nat} (h:Own U σ (iJ S Fz) b):Own U σ S b:=h.imp id fun⟨k,o,es,cap,h1,h2⟩=>⟨k,o,es,cap,(fT h1).1,h2⟩
theorem aS.frz(hR:aS U σ S w n)(Fz:List Nat):aS U σ (iJ S Fz) w n where
 obj:=fun k o hk=>by
  have h:=hR.obj k o (fT hk).1
  have g0:∀ {τ:Sg} {x:V} {v:Value},VR (Own U σ S) w τ x v→VR (Own U σ (iJ S Fz)) w τ x v:=fun h=>h.mono (cM.refl _ _) (fun b _ hb=>mZ hb) fun _ _=>rfl
  cases o with
  |row es xs=>
   obtain⟨hl,h⟩:=h
   refine⟨hl,?_⟩
   rcases hs:σ k with _ | ⟨_ |b,es',cap⟩
   ·rw [hs] at h;exact h
   ·rw [hs] at h;exact h
   ·rw [hs] at h
    obtain⟨rfl,e1,arr,ty,e2,e3,e4⟩:=h
    refine⟨rfl,e1,arr,ty,e2,e3,fun i x c y hx hy=>?_⟩
    obtain⟨v,q1,q2,q3⟩:=e4 i x c y hx hy
    exact⟨v,q1,q2,g0 q3⟩
  |box cs=>
   obtain⟨b,e1,arr,ty,e2,e3,e4⟩:=h
   refine⟨b,e1,arr,ty,e2,e3,fun c y hy=>?_⟩
   obtain⟨v,q1,q2,q3⟩:=e4 c y hy
   exact⟨v,q1,q2,g0 q3⟩
  |mp xs=>
   obtain⟨b,e1,es,ck,e2,e3,e4⟩:=h
   refine⟨b,e1,es,ck,e2,e3,fun i p hp=>?_⟩
   obtain⟨en,q1,q2,q3⟩:=e4 i p hp
   exact⟨en,q1,q2,g0 q3⟩
  |bb l=>exact h
 inj:=fun k k' o o' b es cap es' cap' h1 h2=>hR.inj k k' o o' b es cap es' cap' (fT h1).1 (fT h2).1
 fresh:=fun k hk=>⟨aPA (hR.fresh k hk).1 Fz,(hR.fresh k hk).2⟩
 disj:=fun b ⟨k,o,es,cap,h1,h2⟩=>hR.disj b ⟨k,o,es,cap,(fT h1).1,h2⟩
 ulim:=hR.ulim
 gl:=hR.gl.less fun b h=>mZ h
theorem bL.frz(Fz:List Nat):bL σ S w n σ (iJ S Fz) w n:=
 ⟨cM.refl _ _,fun b _ ⟨k,o,es,cap,h1,h2⟩=>⟨k,o,es,cap,(fT h1).1,h2⟩,fun _ _=>rfl,zY _⟩
theorem VR.lst_of_box {O:Nat→Prop} {b:Nat} {cs:List V} {arr:Array Value} {ty:TypeId} {fr:Nat×Nat} (hO:¬O b)(hh:w.heap[b]? =some (.cells arr ty fr))(hf:cs.all bW=true)
 (hc:∀(c:Nat) (y:V),cs[c]? =some y→∃v,arr[c]? =some v∧v.oneCell'=true∧VR O w (fun _=>none) y v) (h cap:Nat) (hle:h≤cs.length) (hcap:h≤cap):
 VR O w σ (.lst 1 false ((cs.take h).map fun c=> [c])) (.slice (some ⟨b,0,none⟩) h cap):=by
 have hlen:((cs.take h).map fun c=> [c]).length=h:=by simp;omega
 have key:VR O w σ (.lst 1 false ((cs.take h).map fun c=> [c])) (.slice (some ⟨b,0,none⟩) ((cs.take h).map fun c=> [c]).length cap):=by
  refine .lst b 0 (fun i _=>(arr[i]?).getD undef) (fun _=>⟨rfl,hO,(Array.getElem?_eq_some_iff.1 hh).1⟩) (fun x hx=>by obtain⟨c,-,rfl⟩:=List.mem_map.1 hx;rfl) (by rw [hlen];exact hcap) (by simp) (fun i c hi hc'=>?_) (fun i c hi hc'=>?_) fun i x c y hx hy=>?_
  ·rw [hlen] at hi
   obtain rfl:c=0:=by omega
   obtain⟨v,q1,-⟩:=hc i _ (zE (by omega))
   simp [World.cell?,hh,q1]
  ·rw [hlen] at hi
   obtain⟨v,q1,q2,-⟩:=hc i _ (zE (by omega))
   rw [q1];exact q2
  ·rw [zD,zA] at hx
   obtain⟨z,hz,rfl⟩:=hx
   cases c with
   |succ c=>simp at hy
   |zero=>
    simp only [zG,Option.some.injEq] at hy
    subst hy
    rw [zO] at hz
    split at hz
    ·obtain⟨v,q1,-,q3⟩:=hc i _ hz
     rw [q1];exact q3
    ·cases hz
 rw [hlen] at key
 exact key
theorem aOW {t el:TypeId} {len:Nat} {x:Operand} {hi:Option Operand} {a:A} {ha:Option A} (ht:P.underlying t=some (.array len el))(hz:bB P el=some 1)(hx:VR (Own U σ S) w σ (e a) (ρ x))
 (hhi:match hi,ha with |none,none=>True |some l,some l'=>VR (Own U σ S) w σ (e l') (ρ l)|_,_=>False) (hR:aS U σ S w n) (hmn:m≤n)
 (hK:mO S m (.aslc len a ha) e K):oG P U σ S w n m ρ (.slice t x none hi none) K:=by
 have hmx:max n m=n:=by omega
 simp only [mO] at hK
 split at hK
 ·rename_i k hex
  split at hK
  ·rename_i cs ho
   split at hK
   ·rename_i k2 h eh
    obtain⟨⟨hl,hf,h0,h1⟩,hK⟩:=hK
    rw [hex] at hx
    generalize hva:ρ x=va at hx
    cases hx with
    | @ptr _ _ _ _ b es cap hs=>
      have hob:=hR.obj k _ ho
      rw [hs] at hob
      obtain⟨b',he,arr,ty,hh,hsz,hcells⟩:=hob
      simp only [Option.some.injEq,Prod.mk.injEq] at he
      obtain⟨rfl,rfl,rfl⟩:=he
      have B2:bnd ρ hi (len:Int) h:=by
       cases hi with
       |none=>
        cases ha with
        |none=>simp only [V.int.injEq] at eh;exact eh.2.symm
        |some _=>exact hhi.elim
       |some z=>
        cases ha with
        |none=>exact hhi.elim
        |some z'=>
         simp only at hhi eh
         rw [eh] at hhi
         generalize hv:ρ z=v at hhi
         cases hhi
         exact⟨_,hv⟩
      have hdel:iJ S [k]=S.del k:=rfl
      have hO:¬Own U σ (S.del k) b:=by
       rintro (hu | ⟨k',o',es',cap',h1',h2'⟩)
       ·exact hR.disj b ⟨k,_,_,_,ho,hs⟩ hu
       ·rw [aC.get_del] at h1'
        split at h1'
        ·cases h1'
        ·rename_i hne
         exact hne (hR.inj k k' _ o' b _ _ es' cap' ho h1' hs h2').symm
      have hg:bL σ S w n σ (S.del k) w n:=hdel▸bL.frz [k]
      have hr:aS U σ (S.del k) w n:=hdel▸hR.frz [k]
      have run:∀(o':Oper),o'.op=.slice t x none hi none→(execOp ρ o').run P w=.ok (.value (.slice (some ⟨b,0*cs.length+0,none⟩) h.toNat len)) w:=by
       intro o' hop
       cases hi with
       |none=>
        have B2:h=(len:Int):=B2
        subst B2
        simp [execOp,hop,Instr.sliceAt,run_underlying ht,Instr.sliceBounds,hva,bA hz,Instr.sureAddr,iM]
       |some z=>
        obtain⟨kz,hz'⟩:=B2
        simp [execOp,hop,Instr.sliceAt,run_underlying ht,Instr.sliceBounds,Instr.sliceBound,cT,hva,hz',h0,h1,bA hz,Instr.sureAddr,iM]
      refine⟨_,_,_,hK,fun o' ho'=>⟨_,_,w,σ,run o' ho',.inl rfl,fun _ _=>rfl,by rw [hmx];exact hg,by rw [hmx];exact hr,?_⟩⟩
      have :=VR.lst_of_box (w:=w) (σ:=σ) (O:=Own U σ (S.del k)) hO hh hf (fun c y hy=>by
       obtain⟨v,q1,q2,q3⟩:=hcells c y hy
       exact⟨v,q1,q2,(aU q3 (List.all_eq_true.1 hf y (zC hy))).mono (cM.refl _ _) (fun b _ hb=>by rw [←hdel] at hb;exact mZ hb) fun _ _=>rfl⟩) h.toNat len (by omega) (by omega)
      simpa using this
   ·cases hK
  ·cases hK
 ·cases hK
theorem bL.of_keep {σ:Sg} {S:aC} {w w':World} {n:Nat} (h:cM (fun _=>False) w w'):bL σ S w n σ S w' n:=
 ⟨h.wider fun _ h=>h.elim,fun _ _ h=>h,fun _ _=>rfl,zY _⟩
theorem aS.of_keep {S:aC} {n:Nat} (hR:aS U σ S w n) {w':World} (h:cM (fun _=>False) w w'):aS U σ S w' n:=
 hR.step (bL.of_keep h) hR.fresh hR.inj fun k o hk=>.inl ⟨hk,fun b es cap hs=>h.block b (hR.size ⟨k,o,es,cap,hk,hs⟩) id⟩
theorem bDR {s d el:TypeId} {x:Operand} {a:A} (hs:P.underlying s=some .string)(hd:P.underlying d=some (.slice el))(hel:P.underlying el=some (.int .u8))(hx:VR (Own U σ S) w σ (e a) (ρ x))(hR:aS U σ S w n)(hfree:S.get m=none∧σ m=none)
 (hK:mO S m (.s2b a) e K):oG P U σ S w n m ρ (.convert s d x) K:=by
 simp only [mO] at hK
 split at hK
 ·rename_i str h1
  rw [h1] at hx
  generalize hva:ρ x=va at hx
  cases hx
  obtain⟨hlt,hK⟩:=hK
  obtain⟨hc1,hc2⟩:=mD w str.size 0 el hlt
  have hz:str.data.size=str.size:=rfl
  have hzl:str.data.toList.length=str.size:=by rw [Array.length_toList];rfl
  obtain⟨g,r⟩:=hR.new_bytes hfree (w':=w.drew.alloc (.cells (bytesRow str (grownCap w str.size 0 el)) el ((bytesRow str (grownCap w str.size 0 el)).size,(bytesRow str (grownCap w str.size 0 el)).size+1))) (arr:=bytesRow str (grownCap w str.size 0 el)) (ty:=el) (l:=str.data.toList) (cap:=grownCap w str.size 0 el) rfl rfl rfl rfl ⟨by rw [hzl];exact hc1,hc2⟩
   (by unfold bytesRow;rw [yP,Array.size_map,Array.size_replicate,hz];omega) (fun i x hx=>by
    obtain⟨hi,hb⟩:=List.getElem?_eq_some_iff.1 hx
    rw [bytesRow_at str _ i (by simpa using hi),←hb]
    simp)
  refine⟨_,_,_,hK,fun o' ho=>⟨_,.slice (some ⟨w.heap.size,0,none⟩) str.size (grownCap w str.size 0 el),_,_,?_,.inl rfl,(by intro k hk;first |rfl |exact Sg.put_other _ _ hk),g,r,VR.row _ _ _ _ _ _ _ _ hc1⟩⟩
  simp only [execOp,ho,hva,Sem.run_bind,run_bytes_of_string w s d el str hs hd hel,Result.andThen_ok]
  rfl
 ·cases hK
theorem aS.reset(hR:aS U σ S w n) {k:Nat} {o:Obj} (hk:S.get k=some o):bL σ S w n σ (S.set k o) w n∧aS U σ (S.set k o) w n:=by
 have hget:∀j,(S.set k o).get j=S.get j:=fun j=>by
  rw [aC.get_set]
  split
  ·rename_i h;rw [h,hk]
  ·rfl
 have hown:∀c,gB σ (S.set k o) c→gB σ S c:=fun c ⟨j,p,e1,c1,hj,hsj⟩=>⟨j,p,e1,c1,by rw [←hget];exact hj,hsj⟩
 have g:bL σ S w n σ (S.set k o) w n:=⟨cM.refl _ _,fun b _ h=>hown b h,fun _ _=>rfl,zY _⟩
 exact⟨g,hR.step g (fun j hj=>by rw [hget];exact hR.fresh j hj) (fun j j' p p' b e1 c1 e2 c2 h1 h2=>hR.inj j j' p p' b e1 c1 e2 c2 (by rw [←hget];exact h1) (by rw [←hget];exact h2))
  fun j p hj=>.inl ⟨by rw [←hget];exact hj,fun _ _ _ _=>rfl⟩⟩
theorem VR.sl_inv {O:Nat→Prop} {k off len:Nat} {v:Value} (h:VR O w σ (.sl k off len) v):
 (∃b es cap a,v=.slice a len (cap-off)∧σ k=some (some b,es,cap)∧off+len≤cap∧(off<cap→a=some ⟨b,off*es,none⟩))∨(∃es a,v=.slice a 0 0∧σ k=some (none,es,0)∧off=0∧len=0):=by
 cases h with
 |sl h hle ha=>exact .inl ⟨_,_,_,_,rfl,h,hle,ha⟩
 |sl0 h=>exact .inr ⟨_,_,rfl,h,rfl,rfl⟩
theorem aA6(w:World):sA w w.drew:=fun _ _=>rfl
theorem VR.nowhere(σ:Sg)(O:Nat→Prop)(w:World)(m es:Nat)(a:Option Addr):VR O w (σ.put m (none,es,0)) (.sl m 0 0) (.slice a 0 0):=.sl0 (Sg.put_same σ m (none,es,0))
theorem aCO(hR:aS U σ S w n)(hfree:S.get m=none∧σ m=none) {S0:aC} (hS0:∀k o,S0.get k=some o→S.get k=some o) {es cap:Nat} {xs ys:List (List V)} (hxs:∀x∈xs,x.length=es)(hys:∀x∈ys,x.length=es)
 {olds news:List Value} (ho:olds.length=xs.length*es) (hn:news.length=ys.length*es) (hof:lU (Own U σ S) w (fun _=>none) xs.flatten olds.toArray) (hnf:lU (Own U σ S) w (fun _=>none) ys.flatten news.toArray)
 {zs:Array Value} (hzs:zs.size=es) (hcap:xs.length+ys.length≤cap∧cap≤9223372036854775807) (el:TypeId):
 bL σ S w n (σ.put m (some w.heap.size,es,cap)) (S0.set m (.row es (xs++ys))) (w.drew.alloc (.cells ((olds++news).toArray++Builtin.zeroCells zs (cap- (xs.length+ys.length))) el)) (max n (m+1))∧
 aS U (σ.put m (some w.heap.size,es,cap)) (S0.set m (.row es (xs++ys))) (w.drew.alloc (.cells ((olds++news).toArray++Builtin.zeroCells zs (cap- (xs.length+ys.length))) el)) (max n (m+1)):=by
 have hall:∀x∈xs++ys,x.length=es:=fun x hx=>by exact(List.mem_append.1 hx).elim (hxs x) (hys x)
 refine hR.new_row hfree (kP.drewAlloc w _ el) S0 hS0 hall (by simp;omega) ?_ fun i x c y hx hy=>?_
 ·have hz:(Builtin.zeroCells zs (cap- (xs.length+ys.length))).size=(cap- (xs.length+ys.length))*es:=by simp [Builtin.zeroCells,hzs]
  simp only [yP,hz,zS,yO,ho,hn,←zL]
  exact zF _ (by omega)
 ·have hf:=eY hall i x c y hx hy
  rw [List.flatten_append,zI] at hf
  have hxl:=dP hxs
  rw [Array.getElem?_append,zS,yO]
  split at hf
  ·rename_i hlt
   obtain⟨u,h1,h2,h3⟩:=hof _ y hf
   refine⟨u,?_,h2,h3⟩
   rw [if_pos (by omega),zK,List.getElem?_append_left (by omega)]
   simpa using h1
  ·rename_i hge
   rw [hxl] at hf hge
   obtain⟨u,h1,h2,h3⟩:=hnf _ y hf
   refine⟨u,?_,h2,h3⟩
   obtain⟨hlt,-⟩:=List.getElem?_eq_some_iff.1 hf
   rw [dP hys] at hlt
   rw [if_pos (by omega),zK,List.getElem?_append_right (by omega),ho]
   simpa using h1
theorem bDN {t u el el':TypeId} {i:TypeInfo} {z:List V} {x y:Operand} {a b:A} (ht:P.underlying t=some (.slice el))(hu:P.underlying u=some (.slice el'))(hi:P.info? el=some i)(hz:zeroOf P el=some z)(hc:z.length=i.size∧0<i.size)
 (hx:VR (Own U σ S) w σ (e a) (ρ x)) (hy:VR (Own U σ S) w σ (e b) (ρ y)) (hR:aS U σ S w n) (hfree:S.get m=none∧σ m=none) (hK:mO S m (.app i.size i.bytes a b) e K) (o:Op) (ho:o=.call { callee:=.builtin .append,args:= #[x,y],argTypes:= #[t,u] }):oG P U σ S w n m ρ o K:=by
 replace hx:=lK hx
 obtain⟨hc1,hc2⟩:=hc
 obtain⟨i',zv,hi',hzero,hvs⟩:=gA hz
 rw [hi] at hi'
 obtain rfl:=Option.some.inj hi'
 have hzs:zv.cells.size=i.size:=by
  have :=(aHA hvs).1
  simpa [hc1] using this.symm
 have exec:∀(o':Oper),o'.op=o→∀v w',(Builtin.append_ #[t,u] o'.type #[ρ x,ρ y]).run P w=.ok v w'→(execOp ρ o').run P w=.ok (.value v) w':=by
  intro o' ho' v w' h
  simp [execOp,ho',ho,resolve,invoke,builtin,h]
 simp only [mO] at hK
 split at hK
 ·rename_i es' len' ys hsrc
  obtain⟨hes,hlen',hK⟩:=hK
  obtain⟨hyall,⟨ady,capy,hyv⟩,hnews⟩:=aH9 hu hR hy hsrc hes hlen'
  obtain⟨news,hn1,hn2,hn3,hn4⟩:=hnews ys.length (zY _)
  rw [yT] at hn3
  have src:Src P i.size u (ρ y) ys.length news w:=
   ⟨.inl ⟨el',hu⟩,fun w'=>by rw [hyv];rfl,hn4 w (sA.refl w),hn4 w.drew (aA6 w),hn1,hn2⟩
  have src0:ys.length=0→Src P i.size u (ρ y) 0 [] w:=fun h=>by
   have :news=[]:=List.length_eq_zero_iff.1 (by rw [hn1,h];simp)
   rw [this,h] at src
   exact src
  have nilcase:∀(base:Option Addr) (S0:aC),(∀k o,S0.get k=some o→S.get k=some o)→ρ x=.slice base 0 0→(ys.length:Int)≤9223372036854775807→ys.length*i.bytes≤140737488355328→
   K (.sl m 0 ys.length) (S0.set m (.row i.size ys)) (m+1)→oG P U σ S w n m ρ o K:=by
   intro base S0 hS0 hbx h63 h47 hK
   refine⟨_,_,_,hK,fun o' ho'=>?_⟩
   by_cases h0:ys.length=0
   ·obtain rfl:ys=[]:=List.length_eq_zero_iff.1 h0
    obtain⟨g,r⟩:=hR.new_nil hfree i.size S0 hS0
    refine⟨_,.slice base 0 0,w,_,exec o' ho' _ _ ?_,.inl rfl,(by intro k hk;first |rfl |exact Sg.put_other _ _ hk),g,r,VR.nowhere _ _ _ _ _ _⟩
    rw [hbx]
    exact run_append_nothing w t u _ el i ht hi base 0 0 (zY _) _ (src0 h0)
   ·obtain⟨g,r⟩:=aCO hR hfree hS0 (es:=i.size) (cap:=grownCap w (0+ys.length) 0 el) (xs:= []) (ys:=ys) (by simp) hyall (olds:= []) (news:=news) (by simp) hn1 (fun j y hy=>by simp at hy) hn3 hzs (by
     have :=mD w (0+ys.length) 0 el (by omega)
     simpa using this) el
    refine⟨_,.slice (some ⟨w.heap.size,0,none⟩) (0+ys.length) (grownCap w (0+ys.length) 0 el),_,_,exec o' ho' _ _ ?_,.inl rfl,(by intro k hk;first |rfl |exact Sg.put_other _ _ hk),g,r,?_⟩
    ·rw [hbx]
     have :=run_append_grow_src (P:=P) w t u o'.type el i zv ht hi hzero base 0 0 [] (pQ _ _ _ _) (ρ y) ys.length news src (by omega) (by omega) (by
      have :=growslice_fits (need:=0+ys.length) (old:=0) (bytes:=i.bytes) (by omega) (by simpa using h47)
      exact this)
     simpa using this
    ·rw [yQ]
     exact VR.row _ _ _ _ _ _ _ _ (iA _ _ _ _)
  split at hK
  ·rename_i es2 hex
   rw [hex] at hx
   generalize hva:ρ x=va at hx
   cases hx with
   | @lst _ _ _ _ ad cap bb oo cv had hl hcap ht' hq1 hq3 hq2=>
     have hcap0:cap=0:=ht' rfl
     subst hcap0
     exact nilcase ad S (fun _ _ h=>h) hva hK.1 hK.2.1 hK.2.2
  ·rename_i k off len hex
   rw [hex] at hx
   split at hK
   ·rename_i es2 xs hob'
    obtain⟨rfl,rfl,rfl,h63,h47,hK⟩:=hK
    have hob:=hR.obj k _ hob'
    have hdel:∀k' o,(S.del k).get k'=some o→S.get k'=some o:=fun k' o h=>by
     rw [aC.get_del] at h
     split at h
     ·cases h
     ·exact h
    rcases hx.sl_inv with ⟨bl,es3,cap,ad,hva,hs,hle,had⟩| ⟨es3,ad,hva,hs,-,hl0⟩
    ·rw [hs] at hob
     obtain⟨hl,rfl,hcap,arr,ty,hh,hsz,hcells⟩:=hob
     simp only [zM,Nat.zero_mul] at hva had
     refine⟨_,_,_,hK,fun o' ho'=>?_⟩
     by_cases hroom:xs.length+ys.length≤cap
     ·by_cases h0:ys.length=0
      ·obtain rfl:ys=[]:=List.length_eq_zero_iff.1 h0
       obtain⟨g,r⟩:=hR.move hfree (o:=.row i.size (xs++ [])) hob' hs (w':=w) rfl rfl rfl rfl (fun _ _=>rfl) (fun g=>⟨by simpa using hl,rfl,by simpa using hcap,arr,ty,hh,hsz,fun i x c y hx hy=>by
        obtain⟨v,q1,q2,q3⟩:=hcells i x c y (by simpa using hx) hy
        exact⟨v,q1,q2,q3.mono (g.keepU U) (g.ownU U) fun _ _=>rfl⟩⟩)
       refine⟨_,.slice ad xs.length cap,w,_,exec o' ho' _ _ ?_,.inl rfl,(by intro k hk;first |rfl |exact Sg.put_other _ _ hk),g,r,?_⟩
       ·rw [hva]
        exact run_append_nothing w t u _ el i ht hi ad xs.length cap hcap.1 _ (src0 h0)
       ·have :=VR.sl (O:=Own U (σ.put m (some bl,i.size,cap)) ((S.del k).set m (.row i.size (xs++ [])))) (w:=w) (off:=0) (len:=xs.length+([]:List (List V)).length) (a:=ad) (Sg.put_same σ m (some bl,i.size,cap)) (by simpa using hcap.1) (fun h=>by rw [had h];simp)
        simpa using this
      ·have hcp:0<cap:=by omega
       obtain rfl:=had hcp
       have hmul:(xs.length+ys.length)*i.size≤cap*i.size:=zF _ hroom
       rw [zL] at hmul
       obtain⟨arr',hst,hsz',hget⟩:=dL (P:=P) (w:=w) (g:=bl) (o:=xs.length*i.size) news.toArray hh (rO _ _) (by simp [hn1];omega) (by simpa using hn2)
       have hlt:∀j,j<news.length→xs.length*i.size+j<arr.size:=fun j hj=>by omega
       have hrun:=run_append_room_src (P:=P) w t u o'.type el i ht hi bl 0 xs.length cap (ρ y) ys.length news src hroom (fun j hj=>by
        have :=hlt j hj
        simp [World.cell?,hh];omega) (fun j hj=>by have :=rO ty.2 arr.size (xs.length*i.size+j) (hlt j hj);simp [World.frozen?,hh];omega)
       have hset:w.setCells bl (0+xs.length*i.size) news=w.setRow bl arr':=by
        have :=run_storeCells_cells (P:=P) bl (xs.length*i.size) news 0 w (fun j hj=>by have :=hlt j hj;simp [World.cell?,hh];omega) (fun j hj=>by have :=rO ty.2 arr.size (xs.length*i.size+j) (hlt j hj);simp [World.frozen?,hh];omega) hn2
        rw [show(news.toArray).toList=news by simp] at hst
        rw [hst] at this
        simp only [Result.ok.injEq,true_and,zW] at this
        rw [yQ];exact this.symm
       rw [hset] at hrun
       obtain⟨g,r⟩:=hR.move hfree (o:=.row i.size (xs++ys)) hob' hs (w':=w.setRow bl arr') rfl rfl rfl (by simp) (fun j hj=>setRow_other w bl j arr' hj) (fun g=>by
        have hall:∀x∈xs++ys,x.length=i.size:=fun x hx=>by exact(List.mem_append.1 hx).elim (hl x) (hyall x)
        refine⟨hall,rfl,⟨by simpa using hroom,hcap.2⟩,arr',ty,by rw [hsz'];exact setRow_heap w bl arr arr' ty.1 _ hh,by omega,fun i' x c y hx hy=>?_⟩
        have g0:∀ {x v},VR (Own U σ S) w (fun _=>none) x v→VR (Own U (σ.put m (some bl,i.size,cap)) ((S.del k).set m (.row i.size (xs++ys)))) (w.setRow bl arr') (fun _=>none) x v:=fun h=>h.mono (g.keepU U) (g.ownU U) fun _ _=>rfl
        rw [hget]
        have hcl:c<i.size:=by
         obtain⟨h',-⟩:=List.getElem?_eq_some_iff.1 hy
         rw [hall x (zC hx)] at h';exact h'
        rw [zI] at hx
        split at hx
        ·rename_i hi'
         have :=zF i.size (show i'+1≤xs.length by omega)
         rw [zL,yB] at this
         rw [if_neg (by omega)]
         obtain⟨v,q1,q2,q3⟩:=hcells i' x c y hx hy
         exact⟨v,q1,q2,g0 q3⟩
        ·rename_i hi'
         obtain⟨hiy,-⟩:=List.getElem?_eq_some_iff.1 hx
         have e1:i'*i.size=xs.length*i.size+(i'-xs.length)*i.size:=by rw [←zL];congr 1;omega
         have :=zF i.size (show(i'-xs.length)+1≤ys.length by omega)
         rw [zL,yB] at this
         rw [if_pos (by simp [hn1];omega),show i'*i.size+c-xs.length*i.size=(i'-xs.length)*i.size+c by omega]
         obtain⟨v,q1,q2,q3⟩:=hn3 _ _ (eY hyall _ x c y hx hy)
         exact⟨v,q1,q2,g0 q3⟩)
       refine⟨_,.slice (some ⟨bl,0,none⟩) (xs.length+ys.length) cap,_,_,exec o' ho' _ _ ?_,.inl rfl,(by intro k hk;first |rfl |exact Sg.put_other _ _ hk),g,r,VR.row _ _ _ _ _ _ _ _ hroom⟩
       rw [hva];exact hrun
     ·have hnx:=aH9 (x:=.sl k 0 xs.length) (v:=.slice ad xs.length cap) (es:=i.size) (tx:=t) ht hR (by
       have :=VR.sl (O:=Own U σ S) (w:=w) (off:=0) (len:=xs.length) (a:=ad) hs (by omega) (fun h=>by rw [had h];simp)
       simpa using this) (es':=i.size) (ys:=xs) (len':=xs.length) (by simp [aJT,aOJ,tK,hob']) (.inl rfl) rfl
      obtain⟨-,-,hold⟩:=hnx
      obtain⟨olds,ho1,ho2,ho3,ho4⟩:=hold xs.length (zY _)
      rw [yT] at ho3
      obtain⟨g,r⟩:=aCO hR hfree hdel (es:=i.size) (cap:=grownCap w (xs.length+ys.length) cap el) (xs:=xs) (ys:=ys) hl hyall (olds:=olds) (news:=news) ho1 hn1 ho3 hn3 hzs (mD _ _ _ _ (by omega)) el
      refine⟨_,.slice (some ⟨w.heap.size,0,none⟩) (xs.length+ys.length) (grownCap w (xs.length+ys.length) cap el),_,_,exec o' ho' _ _ ?_,.inl rfl,(by intro k hk;first |rfl |exact Sg.put_other _ _ hk),g,r,VR.row _ _ _ _ _ _ _ _ (iA _ _ _ _)⟩
      rw [hva]
      exact run_append_grow_src (P:=P) w t u o'.type el i zv ht hi hzero ad xs.length cap olds (ho4 w.drew (aA6 w)) (ρ y) ys.length news src (by omega) (by omega) (growslice_fits (by omega) h47)
    ·rw [hs] at hob
     obtain⟨hl,rfl,-,rfl⟩:=hob
     exact nilcase _ (S.del k) hdel hva (by simpa using h63) (by simpa using h47) (by simpa using hK)
   ·cases hK
  ·rename_i k off len hex
   rw [hex] at hx
   split at hK
   ·rename_i es2 xs hob'
    obtain⟨rfl,rfl,hlx,h63,h47,hK⟩:=hK
    have hob:=hR.obj k _ hob'
    have hdel:∀k' o,(S.del k).get k'=some o→S.get k'=some o:=fun k' o h=>by
     rw [aC.get_del] at h
     split at h
     ·cases h
     ·exact h
    generalize hva:ρ x=va at hx
    cases hx with
    | @slx _ _ _ _ bl es3 cap ad hs hle had=>
      rw [hs] at hob
      obtain⟨hl,rfl,hcap,arr,ty,hh,hsz,hcells⟩:=hob
      have hlt:∀x∈xs.take len,x.length=i.size:=fun x hx=>hl x (zJ hx)
      have htl:(xs.take len).length=len:=by simp;omega
      refine⟨_,_,_,hK,fun o' ho'=>?_⟩
      by_cases h0:ys.length=0
      ·obtain rfl:ys=[]:=List.length_eq_zero_iff.1 h0
       obtain⟨g,r⟩:=hR.moveC len hfree (o:=.row i.size (xs.take len++ [])) hob' hs (w':=w) rfl rfl rfl rfl (fun _ _=>rfl) (fun g=>⟨by simpa using hlt,rfl,by simp;omega,arr,ty,hh,Nat.le_trans (zF _ (by omega)) hsz,fun i' x c y hx hy=>by
        rw [zQ,zO] at hx
        split at hx
        ·obtain⟨v,q1,q2,q3⟩:=hcells i' x c y hx hy
         exact⟨v,q1,q2,q3.mono (g.keepU U) (g.ownU U) fun _ _=>rfl⟩
        ·cases hx⟩)
       refine⟨_,.slice ad len len,w,_,exec o' ho' _ _ ?_,.inl rfl,(by intro k hk;first |rfl |exact Sg.put_other _ _ hk),g,r,?_⟩
       ·rw [hva]
        exact run_append_nothing w t u _ el i ht hi ad len len (zY _) _ (src0 h0)
       ·have :=VR.sl (O:=Own U (σ.put m (some bl,i.size,len)) ((S.del k).set m (.row i.size (xs.take len++ [])))) (w:=w) (off:=0) (len:=len+([]:List (List V)).length) (a:=ad) (Sg.put_same σ m (some bl,i.size,len)) (by simp) (fun h=>by rw [had h])
        simpa using this
      ·have hold:∃olds:List Value,olds.length=len*i.size∧lU (Own U σ S) w (fun _=>none) (xs.take len).flatten olds.toArray∧∀w',sA w w'→(Builtin.firstCells i.size len (.slice ad len len)).run P w'=.ok olds.toArray w':=by
        by_cases hl0:len=0
        ·subst hl0
         exact⟨[],by simp,fun j y hy=>by simp at hy,fun w' _=>pQ _ _ _ _⟩
        ·obtain rfl:=had (by omega)
         have hnx:=aH9 (x:=.sl k 0 len) (v:=.slice (some ⟨bl,0*i.size,none⟩) len cap) (es:=i.size) (tx:=t) ht hR (by
          have :=VR.sl (O:=Own U σ S) (w:=w) (off:=0) (len:=len) (a:=some ⟨bl,0*i.size,none⟩) hs (by omega) (fun h=>rfl)
          simpa using this) (es':=i.size) (ys:=(xs.drop 0).take len) (len':=len) (by simp [aJT,aOJ,tK,hob']) (.inl rfl) (by simp;omega)
         obtain⟨-,-,hold⟩:=hnx
         have hdl:((xs.drop 0).take len).length=len:=by simp;omega
         obtain⟨olds,ho1,ho2,ho3,ho4⟩:=hold len (by omega)
         rw [List.take_take,Nat.min_self,yI] at ho3
         exact⟨olds,ho1,ho3,fun w' hw=>ho4 w' hw⟩
       obtain⟨olds,ho1,ho3,ho4⟩:=hold
       obtain⟨g,r⟩:=aCO hR hfree hdel (es:=i.size) (cap:=grownCap w (len+ys.length) len el) (xs:=xs.take len) (ys:=ys) hlt hyall (olds:=olds) (news:=news) (by rw [htl];exact ho1) hn1 ho3 hn3 hzs (by rw [htl];exact mD _ _ _ _ (by omega)) el
       rw [htl] at g r
       refine⟨_,.slice (some ⟨w.heap.size,0,none⟩) (len+ys.length) (grownCap w (len+ys.length) len el),_,_,exec o' ho' _ _ ?_,.inl rfl,(by intro k hk;first |rfl |exact Sg.put_other _ _ hk),g,r,VR.row _ _ _ _ _ _ _ _ (iA _ _ _ _)⟩
       rw [hva]
       exact run_append_grow_src (P:=P) w t u o'.type el i zv ht hi hzero ad len len olds (ho4 w.drew (aA6 w)) (ρ y) ys.length news src (by omega) (by omega) (growslice_fits (by omega) h47)
    |slx0 hs=>
     rw [hs] at hob
     obtain⟨hl,rfl,-,rfl⟩:=hob
     exact nilcase _ (S.del k) hdel hva (by simpa using h63) (by simpa using h47) (by simpa using hK)
   ·cases hK
  ·cases hK
 ·cases hK
theorem bDQ {t u el el':TypeId} {es:Nat} {x y:Operand} {a b:A} (ht:P.underlying t=some (.slice el))(hu:P.underlying u=some (.slice el'))(hz:bB P el=some es)(hpos:0<es)
 (hx:VR (Own U σ S) w σ (e a) (ρ x)) (hy:VR (Own U σ S) w σ (e b) (ρ y)) (hR:aS U σ S w n) (hmn:m≤n) (hK:mO S m (.cpy es a b) e K) (o:Op) (ho:o=.call { callee:=.builtin .copy,args:= #[x,y],argTypes:= #[t,u] }):oG P U σ S w n m ρ o K:=by
 have hmx:max n m=n:=by omega
 replace hx:=lK hx
 simp only [mO] at hK
 split at hK
 ·rename_i es' len' ys k off len hsrc hex
  split at hK
  ·rename_i es2 xs hob'
   obtain⟨hes,hlen',rfl,hle',hK⟩:=hK
   obtain⟨hyall,⟨ady,capy,hyv⟩,hnews⟩:=aH9 hu hR hy hsrc hes hlen'
   obtain⟨news,hn1,hn2,hn3,hn4⟩:=hnews (min ys.length len) (by omega)
   have hob:=hR.obj k _ hob'
   rw [hex] at hx
   generalize hva:ρ x=va at hx
   have exec:∀(base:Option Addr) (cap:Nat),va=.slice base len cap→∀w',(match base with |some a=>(storeCells a news).run P w |none=>.ok () w)=.ok () w'→∀(o':Oper),o'.op=o→(execOp ρ o').run P w=.ok (.value (.int .i64 (min ys.length len:Nat))) w':=by
    intro base cap hv w' hst o' ho'
    have hf:=hn4 w (sA.refl w)
    rw [hyv] at hf
    have hmin:yM ys.length len=min ys.length len:=rfl
    simp only [execOp,ho',ho,resolve,invoke,builtin,Builtin.copy_,yF,yN,yR,hva,hv,hyv,Sem.run_bind,Sem.run_pure,pure_bind,Result.andThen_ok,zK,zG,zH,run_underlying ht,Builtin.lenOf,bA hz,hmin,hf]
    cases base with
    |none=>simp only at hst;obtain⟨-,rfl⟩:=Result.ok.inj hst;rfl
    |some a=>simp only at hst;simp [hst,goInt]
   cases hx with
   | @sl _ _ _ _ bl es3 cap ad hs hle had=>
     rw [hs] at hob
     obtain⟨hl,rfl,hcap,arr,ty,hh,hsz,hcells⟩:=hob
     by_cases hc0:off<cap
     ·obtain rfl:=had hc0
      have hmul:(off+min ys.length len)*es3≤cap*es3:=zF _ (by omega)
      rw [zL] at hmul
      obtain⟨arr',hst,hsz',hget⟩:=dL (P:=P) (w:=w) (g:=bl) (o:=off*es3) news.toArray hh (rO _ _) (by simp [hn1];omega) (by simpa using hn2)
      obtain⟨g,r⟩:=hR.write (o:=.row es3 (xs.take off++ys.take (min ys.length len)++xs.drop (off+min ys.length len))) hob' hs (w':=w.setRow bl arr') rfl rfl rfl (by simp) (fun j hj=>setRow_other w bl j arr' hj) (fun g=>by
       have hall:∀x∈xs.take off++ys.take (min ys.length len)++xs.drop (off+min ys.length len),x.length=es3:=fun x hx=>by
        rcases List.mem_append.1 hx with h |h
        ·rcases List.mem_append.1 h with h |h
         ·exact hl x (zJ h)
         ·exact hyall x (zJ h)
        ·exact hl x (zT h)
       refine⟨hall,rfl,by simp;omega,arr',ty,by rw [hsz'];exact setRow_heap w bl arr arr' ty.1 _ hh,by omega,fun i' x c y hx hy=>?_⟩
       have g0:∀ {x v},VR (Own U σ S) w (fun _=>none) x v→VR (Own U σ (S.set k (.row es3 (xs.take off++ys.take (min ys.length len)++xs.drop (off+min ys.length len))))) (w.setRow bl arr') (fun _=>none) x v:=fun h=>h.mono (g.keepU U) (g.ownU U) fun _ _=>rfl
       have hcl:c<es3:=by
        obtain⟨h',-⟩:=List.getElem?_eq_some_iff.1 hy
        rw [hall x (zC hx)] at h';exact h'
       have hto:(xs.take off).length=off:=by simp;omega
       rw [hget,zS,hn1]
       rw [yE,zI,hto,zI,zO,zX,yU] at hx
       have hmm:min (min ys.length len) ys.length=min ys.length len:=by omega
       rw [hmm] at hx
       by_cases h1:i'<off
       ·rw [if_pos h1,if_pos h1] at hx
        have :=zF es3 (show i'+1≤off by omega)
        rw [zL,yB] at this
        rw [if_neg (by omega)]
        obtain⟨v,q1,q2,q3⟩:=hcells i' x c y hx hy
        exact⟨v,q1,q2,g0 q3⟩
       ·rw [if_neg h1] at hx
        have e1:i'*es3=off*es3+(i'-off)*es3:=by rw [←zL];congr 1;omega
        by_cases h2:i'-off<min ys.length len
        ·rw [if_pos h2] at hx
         have :=zF es3 (show(i'-off)+1≤min ys.length len by omega)
         rw [zL,yB] at this
         rw [if_pos (by omega),show i'*es3+c-off*es3=(i'-off)*es3+c by omega]
         obtain⟨v,q1,q2,q3⟩:=hn3 _ _ (eY (fun y hy=>hyall y (zJ hy)) _ x c y hx hy)
         exact⟨v,q1,q2,g0 q3⟩
        ·rw [if_neg h2,show off+min ys.length len+(i'-off-min ys.length len)=i' by omega] at hx
         have :=zF es3 (show min ys.length len≤i'-off by omega)
         rw [if_neg (by omega)]
         obtain⟨v,q1,q2,q3⟩:=hcells i' x c y hx hy
         exact⟨v,q1,q2,g0 q3⟩)
      exact⟨_,_,_,hK,fun o' ho'=>⟨_,_,_,σ,exec _ _ rfl _ (by simpa using hst) o' ho',.inl rfl,(by intro k hk;first |rfl |exact Sg.put_other _ _ hk),by rw [hmx];exact g,by rw [hmx];exact r,.int _ _⟩⟩
     ·obtain rfl:len=0:=by omega
      have hn0:news=[]:=List.length_eq_zero_iff.1 (by rw [hn1];simp)
      simp only [zZ,zW,zP,zQ,zN] at hK
      obtain⟨g,r⟩:=hR.write (o:=.row es3 xs) hob' hs (w':=w) rfl rfl rfl rfl (fun _ _=>rfl) (fun g=>⟨hl,rfl,hcap,arr,ty,hh,hsz,fun i x c y hx hy=>by
       obtain⟨v,q1,q2,q3⟩:=hcells i x c y hx hy
       exact⟨v,q1,q2,q3.mono (g.keepU U) (g.ownU U) fun _ _=>rfl⟩⟩)
      refine⟨_,_,_,hK,fun o' ho'=>⟨_,_,w,σ,exec _ _ rfl _ ?_ o' ho',.inl rfl,(by intro k hk;first |rfl |exact Sg.put_other _ _ hk),by rw [hmx];exact g,by rw [hmx];exact r,by simpa using VR.int _ _⟩⟩
      subst hn0
      cases ad <;> simp [storeCells]
   |sl0 hs=>
    rw [hs] at hob
    obtain⟨hl,rfl,-,rfl⟩:=hob
    have hn0:news=[]:=List.length_eq_zero_iff.1 (by rw [hn1];simp)
    simp only [zZ,zW,zP,zQ,zN] at hK
    obtain⟨g,r⟩:=hR.reset hob'
    refine⟨_,_,_,hK,fun o' ho'=>⟨_,_,w,σ,exec _ _ rfl _ ?_ o' ho',.inl rfl,(by intro k hk;first |rfl |exact Sg.put_other _ _ hk),by rw [hmx];exact g,by rw [hmx];exact r,by simpa using VR.int _ _⟩⟩
    subst hn0
    split <;> simp [storeCells]
  ·cases hK
 ·cases hK
theorem aDW(hR:aS U σ S w n) {k es cap bl:Nat} {xs ys:List (List V)} (hob':S.get k=some (.row es xs))(hs:σ k=some (some bl,es,cap))(hyall:∀y∈ys,y.length=es) {news:List Value} (hn1:news.length=ys.length*es)
 (hn2:∀u∈news,u.oneCell'=true) (hn3:lU (Own U σ S) w (fun _=>none) ys.flatten news.toArray) {off:Nat} (hle:off+ys.length≤xs.length):
 ∃w',(storeCells ⟨bl,off*es,none⟩ news).run P w=.ok () w'∧bL σ S w n σ (S.set k (.row es (xs.take off++ys++xs.drop (off+ys.length)))) w' n∧aS U σ (S.set k (.row es (xs.take off++ys++xs.drop (off+ys.length)))) w' n:=by
 have hob:=hR.obj k _ hob'
 rw [hs] at hob
 obtain⟨hl,-,hcap,arr,ty,hh,hsz,hcells⟩:=hob
 have hmul:(off+ys.length)*es≤cap*es:=zF _ (by omega)
 rw [zL] at hmul
 obtain⟨arr',hst,hsz',hget⟩:=dL (P:=P) (w:=w) (g:=bl) (o:=off*es) news.toArray hh (rO _ _) (by simp [hn1];omega) (by simpa using hn2)
 obtain⟨g,r⟩:=hR.write (o:=.row es (xs.take off++ys++xs.drop (off+ys.length))) hob' hs (w':=w.setRow bl arr') rfl rfl rfl (by simp) (fun j hj=>setRow_other w bl j arr' hj) (fun g=>by
  have hall:∀x∈xs.take off++ys++xs.drop (off+ys.length),x.length=es:=fun x hx=>by
   rcases List.mem_append.1 hx with h |h
   ·rcases List.mem_append.1 h with h |h
    ·exact hl x (zJ h)
    ·exact hyall x h
   ·exact hl x (zT h)
  refine⟨hall,rfl,by simp;omega,arr',ty,by rw [hsz'];exact setRow_heap w bl arr arr' ty.1 _ hh,by omega,fun i' x c y hx hy=>?_⟩
  have g0:∀ {x v},VR (Own U σ S) w (fun _=>none) x v→VR (Own U σ (S.set k (.row es (xs.take off++ys++xs.drop (off+ys.length))))) (w.setRow bl arr') (fun _=>none) x v:=fun h=>h.mono (g.keepU U) (g.ownU U) fun _ _=>rfl
  have hcl:c<es:=by
   obtain⟨h',-⟩:=List.getElem?_eq_some_iff.1 hy
   rw [hall x (zC hx)] at h';exact h'
  have hto:(xs.take off).length=off:=by simp;omega
  rw [hget,zS,hn1]
  rw [yE,zI,hto,zI,zO,zX] at hx
  by_cases h1:i'<off
  ·rw [if_pos h1,if_pos h1] at hx
   have :=zF es (show i'+1≤off by omega)
   rw [zL,yB] at this
   rw [if_neg (by omega)]
   obtain⟨v,q1,q2,q3⟩:=hcells i' x c y hx hy
   exact⟨v,q1,q2,g0 q3⟩
  ·rw [if_neg h1] at hx
   have e1:i'*es=off*es+(i'-off)*es:=by rw [←zL];congr 1;omega
   by_cases h2:i'-off<ys.length
   ·rw [if_pos h2] at hx
    have :=zF es (show(i'-off)+1≤ys.length by omega)
    rw [zL,yB] at this
    rw [if_pos (by omega),show i'*es+c-off*es=(i'-off)*es+c by omega]
    obtain⟨v,q1,q2,q3⟩:=hn3 _ _ (eY hyall _ x c y hx hy)
    exact⟨v,q1,q2,g0 q3⟩
   ·rw [if_neg h2,show off+ys.length+(i'-off-ys.length)=i' by omega] at hx
    have :=zF es (show ys.length≤i'-off by omega)
    rw [if_neg (by omega)]
    obtain⟨v,q1,q2,q3⟩:=hcells i' x c y hx hy
    exact⟨v,q1,q2,g0 q3⟩)
 exact⟨_,by simpa using hst,g,r⟩
theorem aYO {t u el:TypeId} {x y:Operand} {a b:A} (ht:P.underlying t=some (.slice el))(hu:P.underlying u=some .string)(hz:bB P el=some 1)
 (hx:VR (Own U σ S) w σ (e a) (ρ x)) (hy:VR (Own U σ S) w σ (e b) (ρ y)) (hR:aS U σ S w n) (hmn:m≤n) (hK:mO S m (.cpys a b) e K) (o:Op) (ho:o=.call { callee:=.builtin .copy,args:= #[x,y],argTypes:= #[t,u] }):oG P U σ S w n m ρ o K:=by
 have hmx:max n m=n:=by omega
 replace hx:=lK hx
 simp only [mO] at hK
 split at hK
 ·rename_i s k off len hey hex
  split at hK
  ·rename_i xs hob'
   obtain⟨hle',hK⟩:=hK
   rw [hey] at hy
   generalize hvb:ρ y=vb at hy
   cases hy
   rw [hex] at hx
   generalize hva:ρ x=va at hx
   have hob:=hR.obj k _ hob'
   let news:List Value:=(s.data.toList.take (min s.size len)).map fun b=>Value.int .u8 (b.toNat:Int)
   have hsl:s.data.toList.length=s.size:=rfl
   have hnl:news.length=min s.size len:=by simp [news,hsl]
   have hfc:∀w',(Builtin.firstCells 1 (yM s.size len) (.string s)).run P w'=.ok news.toArray w':=by
    intro w'
    have :yM s.size len=min s.size len:=rfl
    rw [this]
    simp only [Builtin.firstCells,Sem.run_pure]
    congr 1
    apply Array.ext'
    simp only [yV,news]
    congr 1
    show(s.extract 0 (min s.size len)).data.toList=_
    rw [ByteArray.data_extract,yJ]
    simp [List.extract]
   have exec:∀(base:Option Addr) (cap:Nat),va=.slice base len cap→∀w',(match base with |some a=>(storeCells a news).run P w |none=>.ok () w)=.ok () w'→∀(o':Oper),o'.op=o→(execOp ρ o').run P w=.ok (.value (.int .i64 (min s.size len:Nat))) w':=by
    intro base cap hv w' hst o' ho'
    have hmin:yM s.size len=min s.size len:=rfl
    simp only [execOp,ho',ho,resolve,invoke,builtin,Builtin.copy_,yF,yN,yR,hva,hv,hvb,Sem.run_bind,Sem.run_pure,pure_bind,Result.andThen_ok,zK,zG,zH,run_underlying ht,Builtin.lenOf,bA hz,hfc]
    cases base with
    |none=>simp only at hst;obtain⟨-,rfl⟩:=Result.ok.inj hst;rfl
    |some a=>simp only at hst;simp [hst,goInt,hmin]
   have hall:∀q∈(cJ s.data.toList).take (min s.size len),q.length=1:=fun q hq=>by
    obtain⟨b,-,rfl⟩:=List.mem_map.1 (zJ hq);rfl
   have hql:((cJ s.data.toList).take (min s.size len)).length=min s.size len:=by rw [yU,kM,hsl];omega
   have hflat:((cJ s.data.toList).take (min s.size len)).flatten=(s.data.toList.take (min s.size len)).map fun b=>V.int .u8 (b.toNat:Int):=by
    unfold cJ
    rw [←List.map_take]
    induction s.data.toList.take (min s.size len) with
    |nil=>rfl
    |cons b r ih=>simp [ih]
   cases hx with
   | @sl _ _ _ _ bl es3 cap ad hs hle had=>
     by_cases hc0:off<cap
     ·obtain rfl:=had hc0
      have hes3:es3=1:=by rw [hs] at hob;exact hob.2.1
      subst hes3
      obtain⟨w',hst,g,r⟩:=aDW (P:=P) hR hob' hs hall (news:=news) (by rw [hnl,hql];omega) (fun u hu=>by obtain⟨b,-,rfl⟩:=List.mem_map.1 hu;rfl) (fun j y hy=>by
       rw [hflat,zD,zA] at hy
       obtain⟨b,hb,rfl⟩:=hy
       exact⟨.int .u8 (b.toNat:Int),by rw [zK];show(List.map _ (List.take _ _))[j]? =_;rw [zD,hb];rfl,rfl,.int _ _⟩) (off:=off) (by rw [hql];omega)
      rw [hql] at g r
      exact⟨_,_,_,hK,fun o' ho'=>⟨_,_,_,σ,exec _ _ rfl _ (by simpa using hst) o' ho',.inl rfl,fun _ _=>rfl,by rw [hmx];exact g,by rw [hmx];exact r,.int _ _⟩⟩
     ·obtain rfl:len=0:=by omega
      have hn0:news=[]:=List.length_eq_zero_iff.1 (by rw [hnl];simp)
      simp only [zZ,zW,zP,zQ,zN] at hK
      obtain⟨g,r⟩:=hR.reset hob'
      refine⟨_,_,_,hK,fun o' ho'=>⟨_,_,w,σ,exec _ _ rfl _ ?_ o' ho',.inl rfl,fun _ _=>rfl,by rw [hmx];exact g,by rw [hmx];exact r,by simpa using VR.int _ _⟩⟩
      rw [hn0]
      cases ad <;> simp [storeCells]
   |sl0 hs=>
    have hn0:news=[]:=List.length_eq_zero_iff.1 (by rw [hnl];simp)
    simp only [zZ,zW,zP,zQ,zN] at hK
    obtain⟨g,r⟩:=hR.reset hob'
    refine⟨_,_,_,hK,fun o' ho'=>⟨_,_,w,σ,exec _ _ rfl _ ?_ o' ho',.inl rfl,fun _ _=>rfl,by rw [hmx];exact g,by rw [hmx];exact r,by simpa using VR.int _ _⟩⟩
    rw [hn0]
    split <;> simp [storeCells]
  ·rename_i l hob'
   obtain⟨hle',hK⟩:=hK
   rw [hey] at hy
   generalize hvb:ρ y=vb at hy
   cases hy
   rw [hex] at hx
   generalize hva:ρ x=va at hx
   have hob:=hR.obj k _ hob'
   let news:List Value:=(s.data.toList.take (min s.size len)).map fun b=>Value.int .u8 (b.toNat:Int)
   have hsl:s.data.toList.length=s.size:=rfl
   have hnl:news.length=min s.size len:=by simp [news,hsl]
   have hfc:∀w',(Builtin.firstCells 1 (yM s.size len) (.string s)).run P w'=.ok news.toArray w':=by
    intro w'
    have :yM s.size len=min s.size len:=rfl
    rw [this]
    simp only [Builtin.firstCells,Sem.run_pure]
    congr 1
    apply Array.ext'
    simp only [yV,news]
    congr 1
    show(s.extract 0 (min s.size len)).data.toList=_
    rw [ByteArray.data_extract,yJ]
    simp [List.extract]
   have exec:∀(base:Option Addr) (cap:Nat),va=.slice base len cap→∀w',(match base with |some a=>(storeCells a news).run P w |none=>.ok () w)=.ok () w'→∀(o':Oper),o'.op=o→(execOp ρ o').run P w=.ok (.value (.int .i64 (min s.size len:Nat))) w':=by
    intro base cap hv w' hst o' ho'
    have hmin:yM s.size len=min s.size len:=rfl
    simp only [execOp,ho',ho,resolve,invoke,builtin,Builtin.copy_,yF,yN,yR,hva,hv,hvb,Sem.run_bind,Sem.run_pure,pure_bind,Result.andThen_ok,zK,zG,zH,run_underlying ht,Builtin.lenOf,bA hz,hfc]
    cases base with
    |none=>simp only at hst;obtain⟨-,rfl⟩:=Result.ok.inj hst;rfl
    |some a=>simp only at hst;simp [hst,goInt,hmin]
   cases hx with
   | @sl _ _ _ _ bl es3 cap ad hs hle had=>
     rw [hs] at hob
     obtain⟨b',cap',hl,hcap,arr,ty,hh,hsz,hcells⟩:=hob
     simp only [Option.some.injEq,Prod.mk.injEq] at hl
     obtain⟨rfl,rfl,rfl⟩:=hl
     by_cases hc0:off<cap
     ·obtain rfl:=had hc0
      obtain⟨arr',hst,hsz',hget⟩:=dL (P:=P) (w:=w) (g:=bl) (o:=off*1) news.toArray hh (fun j hj h'=>Nat.not_le_of_gt hj h'.1) (by simp [hnl];omega) (fun u hu=>by
       simp only at hu
       obtain⟨b,-,rfl⟩:=List.mem_map.1 hu;rfl)
      obtain⟨g,r⟩:=hR.write (o:=.bb (l.take off++s.data.toList.take (min s.size len)++l.drop (off+min s.size len))) hob' hs (w':=w.setRow bl arr') rfl rfl rfl (by simp) (fun j hj=>setRow_other w bl j arr' hj) (fun g=>by
       refine⟨bl,_,rfl,by simp;omega,arr',ty,by rw [hsz'];exact setRow_heap w bl arr arr' ty _ hh,by omega,fun i' x hx=>?_⟩
       have hto:(l.take off).length=off:=by simp;omega
       have htk:(s.data.toList.take (min s.size len)).length=min s.size len:=by simp [hsl]
       rw [hget,zS,hnl]
       rw [yE,zI,hto,zI,zX,htk] at hx
       by_cases h1:i'<off
       ·rw [if_pos h1,zO,if_pos h1] at hx
        rw [if_neg (by omega)]
        exact hcells i' x hx
       ·rw [if_neg h1] at hx
        by_cases h2:i'-off<min s.size len
        ·rw [if_pos h2] at hx
         rw [if_pos (by omega),Nat.mul_one,zK]
         show(List.map _ (List.take _ _))[i'-off]? =_
         rw [zD,hx];rfl
        ·rw [if_neg h2,show off+min s.size len+(i'-off-min s.size len)=i' by omega] at hx
         rw [if_neg (by omega)]
         exact hcells i' x hx)
      exact⟨_,_,_,hK,fun o' ho'=>⟨_,_,_,σ,exec _ _ rfl _ (by simpa using hst) o' ho',.inl rfl,fun _ _=>rfl,by rw [hmx];exact g,by rw [hmx];exact r,.int _ _⟩⟩
     ·obtain rfl:len=0:=by omega
      have hn0:news=[]:=List.length_eq_zero_iff.1 (by rw [hnl];simp)
      simp only [zZ,zW,zP,zQ,zN] at hK
      obtain⟨g,r⟩:=hR.reset hob'
      refine⟨_,_,_,hK,fun o' ho'=>⟨_,_,w,σ,exec _ _ rfl _ ?_ o' ho',.inl rfl,fun _ _=>rfl,by rw [hmx];exact g,by rw [hmx];exact r,by simpa using VR.int _ _⟩⟩
      rw [hn0]
      cases ad <;> simp [storeCells]
   |sl0 hs=>
    have hn0:news=[]:=List.length_eq_zero_iff.1 (by rw [hnl];simp)
    simp only [zZ,zW,zP,zQ,zN] at hK
    obtain⟨g,r⟩:=hR.reset hob'
    refine⟨_,_,_,hK,fun o' ho'=>⟨_,_,w,σ,exec _ _ rfl _ ?_ o' ho',.inl rfl,fun _ _=>rfl,by rw [hmx];exact g,by rw [hmx];exact r,by simpa using VR.int _ _⟩⟩
    rw [hn0]
    split <;> simp [storeCells]
  ·cases hK
 ·cases hK
theorem bDP {t el:TypeId} {es:Nat} {z:List V} {x:Operand} {a:A} (ht:P.underlying t=some (.slice el))(hsz:bB P el=some es)(hz:zeroOf P el=some z)(hc:z.length=es∧0<es∧z.all bW=true)
 (hx:VR (Own U σ S) w σ (e a) (ρ x)) (hR:aS U σ S w n) (hmn:m≤n) (hK:mO S m (.clr es z a) e K) (o:Op) (ho:o=.call { callee:=.builtin .clear,args:= #[x],argTypes:= #[t] }):oG P U σ S w n m ρ o K:=by
 have hmx:max n m=n:=by omega
 obtain⟨hc1,hc2,hc3⟩:=hc
 obtain⟨i',zv,hi',hzero,hvs⟩:=gA hz
 have hzs:zv.cells.size=es:=by
  have :=(aHA hvs).1
  simpa [hc1] using this.symm
 replace hx:=lK hx
 simp only [mO] at hK
 split at hK
 ·rename_i k off len hex
  split at hK
  ·rename_i es2 xs hob'
   obtain⟨rfl,hle',hK⟩:=hK
   rw [hex] at hx
   generalize hva:ρ x=va at hx
   have hob:=hR.obj k _ hob'
   have hall:∀q∈yK len z,q.length=es2:=fun q hq=>by rw [(List.mem_replicate.1 hq).2];exact hc1
   have exec0:∀(ad:Option Addr) (c:Nat),va=.slice ad 0 c→∀(o':Oper),o'.op=o→(execOp ρ o').run P w=.ok (.value (.tuple #[])) w:=by
    intro ad c hv o' ho'
    subst hv
    cases ad <;> simp [execOp,ho',ho,resolve,invoke,builtin,Builtin.clear_,hva,run_underlying ht]
   have nothing:len=0→∀(ad:Option Addr) (c:Nat),va=.slice ad 0 c→oG P U σ S w n m ρ o K:=by
    intro hl0 ad c hv
    subst hl0
    have hsame:xs.take off++yK 0 z++xs.drop (off+0)=xs:=by simp
    rw [hsame] at hK
    obtain⟨g,r⟩:=hR.reset hob'
    exact⟨_,_,_,hK,fun o' ho'=>⟨_,.tuple #[],w,σ,exec0 ad c hv o' ho',.inl rfl,fun _ _=>rfl,by rw [hmx];exact g,by rw [hmx];exact r,.tup rfl (by simp)⟩⟩
   cases hx with
   | @sl _ _ _ _ bl es3 cap ad hs hle had=>
     by_cases hl0:len=0
     ·exact nothing hl0 ad (cap-off) (by rw [hl0])
     ·rw [hs] at hob
      obtain⟨hl,rfl,hcap,arr,ty,hh,hsz',hcells⟩:=hob
      obtain rfl:=had (by omega)
      have hrep:=aAD (O:=Own U σ S) (w:=w) (el:=el) hvs hc3 hc1 hc2 len
      have hcellsz:Builtin.zeroCells zv.cells len=(Array.range (len*es3)).map (zv.cells[·%zv.cells.size]!):=by simp [Builtin.zeroCells,hzs]
      have hone:∀u∈(Builtin.zeroCells zv.cells len).toList,u.oneCell'=true:=by
       intro u hu
       obtain⟨i,hi⟩:=zU hu
       have hilt:i<len*es3:=by
        obtain⟨h',-⟩:=List.getElem?_eq_some_iff.1 hi
        simpa [hcellsz] using h'
       have hfl:((yK len z).flatten).length=len*es3:=by rw [dP hall,yH]
       obtain⟨v,q1,q2,q3⟩:=hrep i _ (zE (by rw [hfl];exact hilt))
       rw [←hcellsz] at q1
       rw [←Array.getElem?_toList,hi] at q1
       obtain rfl:=Option.some.inj q1
       exact q2
      obtain⟨w',hst,g,r⟩:=aDW (P:=P) hR hob' hs hall (news:=(Builtin.zeroCells zv.cells len).toList) (by simp [hcellsz]) hone (by rw [show((Builtin.zeroCells zv.cells len).toList).toArray=Builtin.zeroCells zv.cells len by simp,hcellsz];exact hrep) (off:=off) (by simpa using hle')
      simp only [yH] at g r
      refine⟨_,_,_,hK,fun o' ho'=>⟨_,.tuple #[],w',σ,?_,.inl rfl,fun _ _=>rfl,by rw [hmx];exact g,by rw [hmx];exact r,.tup rfl (by simp)⟩⟩
      cases len with
      |zero=>exact absurd rfl hl0
      |succ len=>simp [execOp,ho',ho,resolve,invoke,builtin,Builtin.clear_,hva,run_underlying ht,zeroValue,typeInfo,hi',hzero,hst]
   |sl0 hs=>exact nothing rfl _ _ rfl
  ·cases hK
 ·cases hK
theorem aV8 {o:Op} {i:I} (h:aUI P o=some i)(hR:aS U σ S w n)(hfree:S.get m=none∧σ m=none)(hmn:m≤n)(he:∀x a,bF x=some a→VR (Own U σ S) w σ (e a) (ρ x))(hK:mO S m i e K):oG P U σ S w n m ρ o K:=by
 unfold aUI at h
 split at h
 ·split at h
  ·rename_i h1
   split at h
   ·rename_i h2
    obtain rfl:=Option.some.inj h
    exact aV6 h1 h2 hR hfree hK
   ·cases h
  ·cases h
 ·simp only [zA] at h
  obtain⟨a,h1,rfl⟩:=h
  exact bDO (he _ _ h1) hR hfree hK
 ·split at h
  ·rename_i h1 h2 h3
   obtain rfl:=Option.some.inj h
   exact aV9 h1 (he _ _ h2) (he _ _ h3) hR hK hmn
  ·cases h
 ·split at h
  ·rename_i h1
   split at h
   ·rename_i h2 h3 h4
    split at h
    ·rename_i h5
     obtain rfl:=Option.some.inj h
     exact aQU h1 h2 h3 h4 h5 he hR hfree hK
    ·cases h
   ·cases h
  ·cases h
 ·split at h
  ·rename_i h1 h2 h3
   split at h
   ·rename_i h4 h5
    split at h
    ·rename_i h6
     obtain rfl:=Option.some.inj h
     exact bHM h1 h4 h5 h6 (he _ _ h2) (he _ _ h3) hR hfree hK
    ·cases h
   ·cases h
  ·cases h
 ·split at h
  ·split at h
   ·obtain rfl:=Option.some.inj h
    exact aK2 hR hfree hK
   ·obtain rfl:=Option.some.inj h
    exact aK2 hR hfree hK
  ·cases h
 ·split at h
  ·rename_i h1 h2
   split at h
   ·rename_i h3
    obtain rfl:=Option.some.inj h
    exact aOW h1 h3 (he _ _ h2) trivial hR hmn hK
   ·rename_i h3
    simp only [zA] at h
    obtain⟨z,h4,rfl⟩:=h
    exact aOW h1 h3 (he _ _ h2) (he _ _ h4) hR hmn hK
   ·cases h
  ·cases h
 ·split at h
  ·rename_i h1 h2 h3
   split at h
   ·rename_i h4
    obtain rfl:=Option.some.inj h
    exact bDR h1 h2 h4 (he _ _ h3) hR hfree hK
   ·cases h
  ·cases h
 ·split at h
  ·rename_i h1 h2 h3 h4
   split at h
   ·rename_i h5
    obtain rfl:=Option.some.inj h
    exact aYP h1 h5 (he _ _ h2) (he _ _ h3) (he _ _ h4) hR hmn hK
   ·rename_i h5
    split at h
    ·rename_i hp
     obtain rfl:=Option.some.inj h
     exact aV7 h1 h5 hp (he _ _ h2) (he _ _ h3) (he _ _ h4) hR hmn hK
    ·cases h
   ·cases h
  ·cases h
 ·rename_i args argTypes
  split at h
  ·rename_i x y t u q1 q2
   split at h
   ·rename_i h1 h2 h3 h4
    split at h
    ·rename_i h5 h6
     split at h
     ·rename_i h7
      obtain rfl:=Option.some.inj h
      obtain rfl:args= #[x,y]:=Array.toList_inj.1 q1
      obtain rfl:argTypes= #[t,u]:=Array.toList_inj.1 q2
      exact bDN h1 h2 h5 h6 h7 (he _ _ h3) (he _ _ h4) hR hfree hK _ rfl
     ·cases h
    ·cases h
   ·cases h
  ·cases h
 ·rename_i args argTypes
  split at h
  ·rename_i x t q1 q2
   split at h
   ·rename_i h1 h2
    split at h
    ·rename_i h3 h4
     split at h
     ·rename_i h5
      obtain rfl:=Option.some.inj h
      obtain rfl:args= #[x]:=Array.toList_inj.1 q1
      obtain rfl:argTypes= #[t]:=Array.toList_inj.1 q2
      exact bDP h1 h3 h4 h5 (he _ _ h2) hR hmn hK _ rfl
     ·cases h
    ·cases h
   ·cases h
  ·cases h
 ·rename_i args argTypes
  split at h
  ·rename_i x y t u q1 q2
   split at h
   ·rename_i h1 h2 h3 h4
    split at h
    ·rename_i h5
     split at h
     ·rename_i h7
      obtain rfl:=Option.some.inj h
      obtain rfl:args= #[x,y]:=Array.toList_inj.1 q1
      obtain rfl:argTypes= #[t,u]:=Array.toList_inj.1 q2
      exact bDQ h1 h2 h5 h7 (he _ _ h3) (he _ _ h4) hR hmn hK _ rfl
     ·cases h
    ·cases h
   ·rename_i h1 h2 h3 h4
    split at h
    ·rename_i h5
     obtain rfl:=Option.some.inj h
     obtain rfl:args= #[x,y]:=Array.toList_inj.1 q1
     obtain rfl:argTypes= #[t,u]:=Array.toList_inj.1 q2
     exact aYO h1 h2 h5 (he _ _ h3) (he _ _ h4) hR hmn hK _ rfl
    ·cases h
   ·cases h
  ·cases h
 ·cases h
end
end Go.Sk
namespace Go.Sk
open Go Go.RowKit
variable [fQ]
def aL:Nat→List Obj→aC
 |_,[]=> []
 |k,o::r=>(k,o)::aL (k+1) r
theorem cQ:∀(obs:List Obj) (k j:Nat),(aL k obs).get j=if k≤j then obs[j-k]? else none
 | [],k,j=>by simp [aL,aC.get]
 |o::r,k,j=>by
  simp only [aL,aC.get]
  by_cases h:j=k
  ·subst h;simp
  ·rw [if_neg h,cQ r (k+1) j]
   by_cases h2:k≤j
   ·rw [if_pos (by omega),if_pos h2,show j-k=(j- (k+1))+1 by omega,zH]
   ·rw [if_neg (by omega),if_neg h2]
def aQ(P:Program)(f:FuncId)(ob0:List Obj)(args:List V)(res:V)(ob1:List Obj):Prop:=
 ∀(U:Nat→Prop) (σ:Sg) (w:World) (cargs:Array Value),aS U σ (aL 0 ob0) w ob0.length→cargs.size=args.length→
  (∀(i:Nat) v c,args[i]? =some v→cargs[i]? =some c→VR (Own U σ (aL 0 ob0)) w σ v c)→
  Calls P f cargs w fun e w'=>∃cv σ',e=.returned cv∧aS U σ' (aL 0 ob1) w' ob1.length∧VR (Own U σ' (aL 0 ob1)) w' σ' res cv∧
   bL σ (aL 0 ob0) w ob0.length σ' (aL 0 ob1) w' ob1.length
def FnM(P:Program)(f:FuncId)(ob0:List Obj)(args:List V)(res:V)(ob1:List Obj):Prop:=
 ∀(U:Nat→Prop) (σ:Sg) (w:World) (cargs:Array Value),aS U σ (aL 0 ob0) w ob0.length→cargs.size=args.length→
  (∀(i:Nat) v c,args[i]? =some v→cargs[i]? =some c→VR (Own U σ (aL 0 ob0)) w σ v c)→
  Calls P f cargs w fun e w'=>∃cv σ',e=.returned cv∧aS U σ' (aL 0 ob1) w' ob1.length∧VR (Own U σ' (aL 0 ob1)) w' σ' res cv∧
   lV (gB σ (aL 0 ob0)) (fun _=>none) w 0 σ' (aL 0 ob1) w' ob1.length
def qW(S:aC):V→V
 | .sl k off len=>match S.get k with
   |some (.row es xs)=>.lst es false ((xs.drop off).take len)
   |_=>.any
 | .slk k off len c=>match S.get k with
   |some (.row es xs)=>.lst es (Nat.beq c len) ((xs.drop off).take len)
   |_=>.any
 | .ptr k _ c=>match S.get k with
   |some (.box cs)=>.rp cs.length cs c
   |_=>.any
 | .int k n=>.int k n
 | .bool b=>.bool b
 | .str s=>.str s
 | .nil=>.nil
 | .rp es cs c=>.rp es cs c
 | .lst es t xs=>.lst es t xs
 | .val v=>.val v
 |_=>.any
def pur(S:aC):V→V
 | .agg cs=>.agg (cs.map (qW S))
 | .fn f cs=>.fn f (cs.map (qW S))
 |v=>qW S v
def gZ(S:aC):V→Prop
 | .sl k off len=>match S.get k with
   |some (.row _ xs)=>off+len≤xs.length
   |_=>True
 | .slk k off len _=>match S.get k with
   |some (.row _ xs)=>off+len≤xs.length
   |_=>True
 | .ptr k i _=>match S.get k with
   |some (.box cs)=>i=0∧cs.all bW=true
   |_=>True
 |_=>True
def mI(S:aC):V→Prop
 | .agg cs=>∀c∈cs,gZ S c
 | .fn _ cs=>∀c∈cs,gZ S c
 |v=>gZ S v
def tC:V→Bool
 | .sl _ _ _=>false
 | .slk _ _ _ _=>false
 | .ptr _ _ _=>false
 |_=>true
def aF6:V→Bool
 | .agg cs=>cs.all tC
 | .fn _ cs=>cs.all tC
 |v=>tC v
def aH7:V→Bool
 | .int _ _=>true | .bool _=>true | .str _=>true | .nil=>true | .val _=>true | .any=>true
 |_=>false
def aH8:V→Bool
 | .agg cs=>cs.all aH7
 |v=>aH7 v
def aA8:V→Bool
 | .tup vs=>vs.all aH8
 |v=>aH8 v
theorem aFK {O O':Nat→Prop} {w w':World} {σ σ':Sg} {x:V} {v:Value} (h:aH7 x=true)(hv:VR O w σ x v):VR O' w' σ' x v:=by
 cases hv <;> first |exact .any _ |exact .int _ _ |exact .bool _ |exact .str _ |exact .nil |exact .val _ | (simp [aH7] at h)
theorem aFL {O O':Nat→Prop} {w w':World} {σ σ':Sg} {x:V} {v:Value} (h:aH8 x=true)(hv:VR O w σ x v):VR O' w' σ' x v:=by
 by_cases ha:∃cs,x=.agg cs
 ·obtain⟨cs,rfl⟩:=ha
  cases hv with
  |agg hn hc=>exact .agg hn fun i y u hy hu=>aFK (List.all_eq_true.1 h y (zC hy)) (hc i y u hy hu)
 ·refine aFK ?_ hv
  unfold aH8 at h
  split at h
  ·exact absurd ⟨_,rfl⟩ ha
  ·exact h
theorem aQN {O O':Nat→Prop} {w w':World} {σ σ':Sg} {x:V} {v:Value} (h:aA8 x=true)(hv:VR O w σ x v):VR O' w' σ' x v:=by
 by_cases ha:∃cs,x=.tup cs
 ·obtain⟨cs,rfl⟩:=ha
  cases hv with
  |tup hn hc=>exact .tup hn fun i y u hy hu=>aFL (List.all_eq_true.1 h y (zC hy)) (hc i y u hy hu)
 ·refine aFL ?_ hv
  unfold aA8 at h
  split at h
  ·exact absurd ⟨_,rfl⟩ ha
  ·exact h
section
variable {P:Program} {U:Nat→Prop} {σ:Sg} {S:aC} {w:World} {n:Nat}
theorem aH3(hR:aS U σ S w n) {O:Nat→Prop} (hOs:∀b,O b→Own U σ S b) {k off len es:Nat} {xs:List (List V)} {v:Value} (hv:VR (Own U σ S) w σ (.sl k off len) v)(ho:S.get k=some (.row es xs))(hle:off+len≤xs.length)
 (hO:∀b es cap,σ k=some (some b,es,cap)→¬O b):VR O w (fun _=>none) (.lst es false ((xs.drop off).take len)) v:=by
 have sub:∀ {x v},VR (Own U σ S) w (fun _=>none) x v→VR O w (fun _=>none) x v:=fun h=>h.mono (cM.refl _ _) (fun b _ h=>hOs b h) fun _ _=>rfl
 have hob:=hR.obj k _ ho
 rcases hv.sl_inv with ⟨b,es2,cap,ad,rfl,hs,hle',had⟩| ⟨es2,ad,rfl,hs,rfl,rfl⟩
 ·have hOb:=hO _ _ _ hs
  rw [hs] at hob
  obtain⟨hl,rfl,hcap,arr,ty,hh,hsz,hcells⟩:=hob
  have hlen:((xs.drop off).take len).length=len:=by simp;omega
  have hb:b<w.heap.size:=(Array.getElem?_eq_some_iff.1 hh).1
  have hdec:∀i c,i<len→c<es2→∃u,w.cell? ⟨b,off*es2+i*es2+c,none⟩=some u∧u.oneCell'=true∧∀(z:List V) (y:V),((xs.drop off).take len)[i]? =some z→z[c]? =some y→VR O w (fun _=>none) y u:=by
   intro i c hi hc
   have hil:off+i<xs.length:=by omega
   have hzl:(xs[off+i]).length=es2:=hl _ (yW hil)
   obtain⟨u,q1,q2,q3⟩:=hcells (off+i) xs[off+i] c _ (zE hil) (zE (by omega))
   refine⟨u,?_,q2,fun z y hz hy=>?_⟩
   ·rw [zL] at q1
    simp [World.cell?,hh,q1]
   ·rw [zO,if_pos hi,zX,zE hil] at hz
    obtain rfl:=Option.some.inj hz
    rw [zE (by omega)] at hy
    obtain rfl:=Option.some.inj hy
    exact sub q3
  have key:VR O w (fun _=>none) (.lst es2 false ((xs.drop off).take len)) (.slice ad ((xs.drop off).take len).length (cap-off)):=by
   refine .lst b (off*es2) (fun i c=>(w.cell? ⟨b,off*es2+i*es2+c,none⟩).getD undef) (fun hne=>?_) (fun z hz=>hl z (zT (zJ hz))) (by rw [hlen];omega) (by simp) (fun i c hi hc=>?_) (fun i c hi hc=>?_) fun i z c y hz hy=>?_
   ·have hpos:=List.length_pos_iff.2 hne
    rw [hlen] at hpos
    exact⟨had (by omega),hOb,hb⟩
   ·obtain⟨u,q1,-⟩:=hdec i c (by omega) hc
    rw [q1];rfl
   ·obtain⟨u,q1,q2,-⟩:=hdec i c (by omega) hc
    rw [q1];exact q2
   ·obtain⟨hi,-⟩:=List.getElem?_eq_some_iff.1 hz
    obtain⟨hc,-⟩:=List.getElem?_eq_some_iff.1 hy
    rw [hlen] at hi
    have hzl:=hl z (zT (zJ (zC hz)))
    obtain⟨u,q1,-,q3⟩:=hdec i c hi (by omega)
    rw [q1];exact q3 z y hz hy
  rw [hlen] at key
  exact key
 ·simp only [yI,zP]
  exact .lst (xs:= []) 0 0 (fun _ _=>undef) (by simp) (by simp) (by simp) (by simp) (by simp) (by simp) (by simp)
theorem aH4(hR:aS U σ S w n) {O:Nat→Prop} (hOs:∀b,O b→Own U σ S b) {k off len c es:Nat} {xs:List (List V)} {v:Value} (hv:VR (Own U σ S) w σ (.slk k off len c) v)(ho:S.get k=some (.row es xs))(hle:off+len≤xs.length)
 (hO:∀b es cap,σ k=some (some b,es,cap)→¬O b) (t:Bool) (ht:t=true→c=len):VR O w (fun _=>none) (.lst es t ((xs.drop off).take len)) v:=by
 have h1:=aH3 hR hOs (lK hv) ho hle hO
 have hlen:((xs.drop off).take len).length=len:=by simp;omega
 cases hv with
 |slk hs hle' ha hc=>
  generalize hys:(xs.drop off).take len=ys at h1 hlen⊢
  generalize hval:Value.slice _ _ _=v at h1⊢
  cases h1 with
  | @lst _ _ _ _ ad cap b o cv q1 q2 q3 q4 q5 q6 q7=>
    simp only [Value.slice.injEq] at hval
    obtain⟨-,-,hcap⟩:=hval
    exact .lst b o cv q1 q2 q3 (fun h=>by have :=ht h;omega) q5 q6 q7
 |slk0 hs=>
  have :xs.take 0=[]:=by simp
  simp only [yI,zP] at h1⊢
  exact .lst (xs:= []) 0 0 (fun _ _=>undef) (by simp) (by simp) (by simp) (by simp) (by simp) (by simp) (by simp)
theorem bCU(hR:aS U σ S w n) {k i c:Nat} {cs:List V} {v:Value} (hv:VR (Own U σ S) w σ (.ptr k i c) v)(ho:S.get k=some (.box cs))(hi:i=0)(hf:cs.all bW=true):VR U w (fun _=>none) (.rp cs.length cs c) v:=by
 have hob:=hR.obj k _ ho
 subst hi
 cases hv with
 | @ptr _ _ _ _ b es cap hs=>
   rw [hs] at hob
   obtain⟨b',hl,arr,ty,hh,hsz,hcells⟩:=hob
   simp only [Option.some.injEq,Prod.mk.injEq] at hl
   obtain⟨rfl,rfl,rfl⟩:=hl
   have hdec:∀j,j<cs.length→∃u,arr[j]? =some u∧u.oneCell'=true∧∀y,cs[j]? =some y→VR U w (fun _=>none) y u:=by
    intro j hj
    obtain⟨u,q1,q2,q3⟩:=hcells j _ (zE hj)
    refine⟨u,q1,q2,fun y hy=>?_⟩
    rw [zE hj] at hy
    obtain rfl:=Option.some.inj hy
    exact(aU q3 (List.all_eq_true.1 hf _ (yW hj))).mono (cM.refl _ _) (fun b _ h=>.inl h) fun _ _=>rfl
   rw [Nat.zero_mul]
   refine .rp b 0 (fun j=>(arr[j]?).getD undef) rfl (hR.disj b ⟨k,_,_,_,ho,hs⟩) (Array.getElem?_eq_some_iff.1 hh).1 (fun j hj=>?_) (fun j hj=>?_) (fun j y hy=>?_)
   ·obtain⟨u,q1,-,-⟩:=hdec j hj
    simp [World.cell?,hh,q1]
   ·obtain⟨u,q1,q2,-⟩:=hdec j hj
    rw [q1];exact q2
   ·obtain⟨hj,-⟩:=List.getElem?_eq_some_iff.1 hy
    obtain⟨u,q1,-,q3⟩:=hdec j hj
    rw [q1];exact q3 y hy
theorem aGS(hR:aS U σ S w n) {x:V} {v:Value} (hv:VR (Own U σ S) w σ x v)(hok:gZ S x):VR U w (fun _=>none) (qW S x) v:=by
 have sub:∀ {x v},VR (Own U σ S) w (fun _=>none) x v→VR U w (fun _=>none) x v:=fun h=>h.mono (cM.refl _ _) (fun b _ h=>.inl h) fun _ _=>rfl
 cases x with
 |sl k off len=>
  simp only [qW]
  split
  ·rename_i es xs ho
   have hle:off+len≤xs.length:=by simpa [gZ,ho] using hok
   exact aH3 hR (fun b h=>.inl h) hv ho hle fun b es cap hs=>hR.disj b ⟨k,_,_,_,ho,hs⟩
  ·exact .any _
 |slk k off len c=>
  simp only [qW]
  split
  ·rename_i es xs ho
   have hle:off+len≤xs.length:=by simpa [gZ,ho] using hok
   exact aH4 hR (fun b h=>.inl h) hv ho hle (fun b es cap hs=>hR.disj b ⟨k,_,_,_,ho,hs⟩) _ (fun h=>yA h)
  ·exact .any _
 |ptr k i c=>
  simp only [qW]
  split
  ·rename_i cs ho
   have hle:i=0∧cs.all bW=true:=by simpa only [gZ,ho] using hok
   exact bCU hR hv ho hle.1 hle.2
  ·exact .any _
 |int k n=>exact sub (aU hv rfl)
 |bool b=>exact sub (aU hv rfl)
 |str s=>exact sub (aU hv rfl)
 |nil=>exact sub (aU hv rfl)
 |rp es cs c=>exact sub (aU hv rfl)
 |lst es t xs=>exact sub (aU hv rfl)
 |val u=>cases hv;exact .val _
 |_=>exact .any _
theorem bCX(hR:aS U σ S w n) {x:V} {v:Value} (hv:VR (Own U σ S) w σ x v)(hok:mI S x):VR U w (fun _=>none) (pur S x) v:=by
 by_cases ha:∃cs,x=.agg cs
 ·obtain⟨cs,rfl⟩:=ha
  cases hv with
  |agg hn hc=>
   simp only [pur]
   refine .agg (by simpa using hn) fun i y u hy hu=>?_
   rw [zD,zA] at hy
   obtain⟨y',hy',rfl⟩:=hy
   exact aGS hR (hc i y' u hy' hu) (hok y' (zC hy'))
 by_cases hb:∃f cs,x=.fn f cs
 ·obtain⟨f,cs,rfl⟩:=hb
  cases hv with
  |fn hn hc=>
   simp only [pur]
   refine .fn (by simpa using hn) fun i y u hy hu=>?_
   rw [zD,zA] at hy
   obtain⟨y',hy',rfl⟩:=hy
   exact aGS hR (hc i y' u hy' hu) (hok y' (zC hy'))
 ·have h1:pur S x=qW S x:=by unfold pur;split;exact absurd ⟨_,rfl⟩ ha;exact absurd ⟨_,_,rfl⟩ hb;rfl
  rw [h1]
  refine aGS hR hv ?_
  unfold mI at hok
  split at hok
  ·exact absurd ⟨_,rfl⟩ ha
  ·exact absurd ⟨_,_,rfl⟩ hb
  ·exact hok
theorem aGL {O:Nat→Prop} {x:V} {v:Value} (hv:VR O w σ x v)(h:tC x=true):VR O w (fun _=>none) (qW S x) v:=by
 cases x with
 |sl k off len=>simp [tC] at h
 |slk k off len c=>simp [tC] at h
 |ptr k i c=>simp [tC] at h
 |int k n=>exact aU hv rfl
 |bool b=>exact aU hv rfl
 |str s=>exact aU hv rfl
 |nil=>exact aU hv rfl
 |rp es cs c=>exact aU hv rfl
 |lst es t xs=>exact aU hv rfl
 |val u=>cases hv;exact .val _
 |_=>exact .any _
theorem bEZ {O:Nat→Prop} {x:V} {v:Value} (hv:VR O w σ x v)(h:aF6 x=true):VR O w (fun _=>none) (pur S x) v:=by
 by_cases ha:∃cs,x=.agg cs
 ·obtain⟨cs,rfl⟩:=ha
  cases hv with
  |agg hn hc=>
   simp only [pur]
   refine .agg (by simpa using hn) fun i y u hy hu=>?_
   rw [zD,zA] at hy
   obtain⟨y',hy',rfl⟩:=hy
   exact aGL (hc i y' u hy' hu) (List.all_eq_true.1 h y' (zC hy'))
 by_cases hb:∃f cs,x=.fn f cs
 ·obtain⟨f,cs,rfl⟩:=hb
  cases hv with
  |fn hn hc=>
   simp only [pur]
   refine .fn (by simpa using hn) fun i y u hy hu=>?_
   rw [zD,zA] at hy
   obtain⟨y',hy',rfl⟩:=hy
   exact aGL (hc i y' u hy' hu) (List.all_eq_true.1 h y' (zC hy'))
 ·have h1:pur S x=qW S x:=by unfold pur;split;exact absurd ⟨_,rfl⟩ ha;exact absurd ⟨_,_,rfl⟩ hb;rfl
  rw [h1]
  refine aGL hv ?_
  unfold aF6 at h
  split at h
  ·exact absurd ⟨_,rfl⟩ ha
  ·exact absurd ⟨_,_,rfl⟩ hb
  ·exact h
theorem aS.none(U:Nat→Prop)(w:World)(hu:∀b,U b→b<w.heap.size)(hg:GlR U w):aS U (fun _=>none) [] w 0 where
 obj:=fun k o h=>by simp [aC.get] at h
 inj:=fun k k' o o' b es cap es' cap' h=>by simp [aC.get] at h
 fresh:=fun k _=>⟨rfl,rfl⟩
 disj:=fun b ⟨k,o,es,cap,h,_⟩=>by simp [aC.get] at h
 ulim:=hu
 gl:=hg.less fun b h=>h.elim id fun⟨k,o,es,cap,h,_⟩=>by simp [aC.get] at h
theorem aAQ {f:FuncId} (hR:aS U σ S w n) {args:List V} {cargs:Array Value} {res:V} (hl:cargs.size=args.length)(ha:∀(i:Nat) v c,args[i]? =some v→cargs[i]? =some c→VR (Own U σ S) w σ v c)
 (hok:∀v∈args,mI S v) (hf:aQ P f [] (args.map (pur S)) res []) (hb:args.all aF6=true∨aA8 res=true):
 Calls P f cargs w fun e w'=>∃cv,e=.returned cv∧VR (Own U σ S) w' σ res cv∧cM (fun _=>False) w w':=by
 have ownlt:∀b,Own U σ S b→b<w.heap.size:=fun b h=>h.elim (hR.ulim b) hR.size
 have noown:∀(σ':Sg) (b:Nat),¬gB σ' ([]:aC) b:=fun σ' b ⟨k,o,es,cap,h,_⟩=>by simp [aC.get] at h
 by_cases hnb:args.all aF6=true
 ·refine(hf (Own U σ S) (fun _=>none) w cargs (aS.none _ w ownlt hR.gl) (by simpa using hl) fun i v c hv hc=>?_).mono fun e w' ⟨cv,σ',he,hR',hv,g⟩=>⟨cv,he,?_,?_⟩
  ·rw [zD,zA] at hv
   obtain⟨v',hv',rfl⟩:=hv
   exact(bEZ (S:=S) (ha i v' c hv' hc) (List.all_eq_true.1 hnb v' (zC hv'))).mono (cM.refl _ _) (fun b _ h=>h.elim id fun h=>absurd h (noown _ b)) fun _ _=>rfl
  ·exact hv.mono (cM.refl _ _) (fun b _ h=>.inl h) fun k hr=>absurd (hR'.fresh k (zV _)).2 (hv.refs k hr)
  ·exact g.keep.wider fun b h=>(noown _ b h).elim
 ·have hsol:=hb.resolve_left hnb
  refine(hf U (fun _=>none) w cargs (aS.none _ w hR.ulim (hR.gl.less fun b h=>.inl h)) (by simpa using hl) fun i v c hv hc=>?_).mono fun e w' ⟨cv,σ',he,hR',hv,g⟩=>⟨cv,he,aQN hsol hv,?_⟩
  ·rw [zD,zA] at hv
   obtain⟨v',hv',rfl⟩:=hv
   exact(bCX hR (ha i v' c hv' hc) (hok v' (zC hv'))).mono (cM.refl _ _) (fun b _ h=>h.elim id fun h=>absurd h (noown _ b)) fun _ _=>rfl
  ·exact g.keep.wider fun b h=>(noown _ b h).elim
end
end Go.Sk
namespace Go.Sk
open Go Go.RowKit
variable [fQ]
def gE(d:Nat):List Nat→Bool
 | []=>false
 |h::t=>d==h||gE d t
def posOf(k:Nat):List Nat→Nat→Option Nat
 | [],_=>none
 |h::t,j=>match Nat.beq k h with
  |true=>some j
  |false=>posOf k t (j+1)
theorem nX:∀ {k:Nat} {L:List Nat} {i j:Nat},posOf k L i=some j→i≤j∧L[j-i]? =some k
 |_,[],_,_,h=>by simp [posOf] at h
 |k,h::t,i,j,hp=>by
  simp only [posOf] at hp
  split at hp
  ·rename_i hb
   obtain rfl:=Option.some.inj hp
   have :=yA hb
   subst this
   simp
  ·obtain⟨h1,h2⟩:=nX hp
   refine⟨by omega,?_⟩
   rw [show j-i=(j- (i+1))+1 by omega,zH];exact h2
def arg1(L:List Nat):V→V
 | .ptr k i c=>match posOf k L 0 with |some j=>.ptr j i c |none=>.any
 | .sl k off len=>match posOf k L 0 with |some j=>.sl j off len |none=>.any
 | .slk k off len c=>match posOf k L 0 with |some j=>.slk j off len c |none=>.any
 | .mp k=>match posOf k L 0 with |some j=>.mp j |none=>.any
 | .int k n=>.int k n
 | .bool b=>.bool b
 | .str s=>.str s
 | .nil=>.nil
 | .rp es cs c=>.rp es cs c
 | .lst es t xs=>.lst es t xs
 | .val v=>.val v
 |_=>.any
def arg2(L:List Nat):V→V
 | .agg cs=>.agg (cs.map (arg1 L))
 | .fn f cs=>.fn f (cs.map (arg1 L))
 |v=>arg1 L v
def bHS:Obj→Bool
 | .row _ _=>true
 | .box cs=>cs.all bW
 | .mp _=>true
 | .bb _=>true
def aKJ(L:List Nat):Obj→Obj
 | .row es xs=>.row es xs
 | .box cs=>.box (cs.map (arg1 L))
 | .mp xs=>.mp xs
 | .bb l=>.bb l
def sX(S:aC)(L0:List Nat):List Nat→List Obj→Prop
 | [],[]=>True
 |k::L,o::obs=>(match S.get k with |some p=>aKJ L0 p=o |none=>False)∧sX S L0 L obs
 |_,_=>False
def jH:List Nat→Bool
 | []=>true
 |k::r=> !gE k r&&jH r
def lH:aC→List Nat→List Obj→Nat→aC
 |S,_,[],_=>S
 |S,k::L,o::obs,m=>lH (S.set k o) L obs m
 |S,[],o::obs,m=>lH (S.set m o) [] obs (m+1)
def sF(L:List Nat)(m j:Nat):Nat:=if j<L.length then L.getD j 0 else m+(j-L.length)
def aQ7(L:List Nat)(m:Nat):V→V
 | .ptr k i c=>.ptr (sF L m k) i c
 | .sl k off len=>.sl (sF L m k) off len
 | .slk k off len c=>.slk (sF L m k) off len c
 | .mp k=>.mp (sF L m k)
 | .int k n=>.int k n
 | .bool b=>.bool b
 | .str s=>.str s
 | .nil=>.nil
 | .rp es cs c=>.rp es cs c
 | .lst es t xs=>.lst es t xs
 | .val v=>.val v
 |_=>.any
def aJE(L:List Nat)(m:Nat):V→V
 | .agg cs=>.agg (cs.map (aQ7 L m))
 | .fn f cs=>.fn f (cs.map (aQ7 L m))
 |v=>aQ7 L m v
def aBE(L:List Nat)(m:Nat):V→V
 | .tup cs=>.tup (cs.map (aJE L m))
 |v=>aJE L m v
def lE(L:List Nat)(m:Nat):Obj→Obj
 | .row es xs=>.row es xs
 | .box cs=>.box (cs.map (aQ7 L m))
 | .mp xs=>.mp xs
 | .bb l=>.bb l
def mX(P:Program)(f:FuncId)(args:List V)(S:aC)(m:Nat)(K:V→aC→Nat→Prop):Prop:=
 ∃(L:List Nat) (ob0 ob1:List Obj) (res:V),aQ P f ob0 (args.map (arg2 L)) res ob1∧sX S L L ob0∧jH L=true∧Nat.ble L.length ob1.length=true∧Nat.ble ob1.length (L.length+16)=true∧
  K (aBE L m res) (lH S L (ob1.map (lE L m)) m) (m+16)
theorem fJ:∀ {d:Nat} {l:List Nat},gE d l=true↔d∈l
 |d,[]=>by simp [gE]
 |d,h::t=>by simp only [gE,Bool.or_eq_true,beq_iff_eq,List.mem_cons];exact or_congr Iff.rfl fJ
theorem tD:∀ {L:List Nat},jH L=true→∀(i j k:Nat),L[i]? =some k→L[j]? =some k→i=j
 | [],_,i,j,k,h,_=>by simp at h
 |a::r,hn,i,j,k,hi,hj=>by
  simp only [jH,yX,yS] at hn
  have hna:a∉r:=fun hm=>by rw [fJ.2 hm] at hn;exact absurd hn.1 (by simp)
  cases i with
  |zero=>
   simp only [zG,Option.some.injEq] at hi
   subst hi
   cases j with
   |zero=>rfl
   |succ j=>exact absurd (zC (by simpa using hj)) hna
  |succ i=>
   cases j with
   |zero=>
    simp only [zG,Option.some.injEq] at hj
    subst hj
    exact absurd (zC (by simpa using hi)) hna
   |succ j=>rw [tD hn.2 i j k (by simpa using hi) (by simpa using hj)]
theorem sY {S:aC} {L0:List Nat} :∀ {L:List Nat} {obs:List Obj},sX S L0 L obs→L.length=obs.length∧∀(j k:Nat),L[j]? =some k→∃p,obs[j]? =some (aKJ L0 p)∧S.get k=some p
 | [],[],_=>by simp
 | [],_::_,h=>h.elim
 |_::_,[],h=>h.elim
 |a::L,o::obs,h=>by
  obtain⟨h1,h3⟩:=h
  obtain⟨h4,h5⟩:=sY h3
  refine⟨by simp [h4],fun j k hj=>?_⟩
  cases j with
  |zero=>
   simp only [zG,Option.some.injEq] at hj
   subst hj
   split at h1
   ·rename_i p hp;subst h1;exact⟨p,rfl,hp⟩
   ·exact h1.elim
  |succ j=>exact h5 j k (by simpa using hj)
theorem pK:∀(obs:List Obj) (S:aC) (m k:Nat),(lH S [] obs m).get k=if m≤k∧k<m+obs.length then obs[k-m]? else S.get k
 | [],S,m,k=>by simp [lH];omega
 |o::obs,S,m,k=>by
  simp only [lH]
  rw [pK obs (S.set m o) (m+1) k,aC.get_set]
  simp only [yG]
  by_cases h:k=m
  ·subst h;rw [if_neg (by omega),if_pos rfl,if_pos (by omega)];simp
  ·by_cases h2:m≤k∧k<m+(obs.length+1)
   ·rw [if_pos (by omega),if_pos h2,show k-m=(k- (m+1))+1 by omega,zH]
   ·rw [if_neg (by omega),if_neg h,if_neg h2]
theorem aJO:∀(L:List Nat) (obs:List Obj) (S:aC) (m:Nat),L.length≤obs.length→jH L=true→(∀k∈L,¬(m≤k∧k<m+(obs.length-L.length)))→∀k:Nat,
 (∀j:Nat,L[j]? =some k→(lH S L obs m).get k=obs[j]?)∧
 (m≤k∧k<m+(obs.length-L.length)→(lH S L obs m).get k=obs[L.length+(k-m)]?)∧
 (k∉L→¬(m≤k∧k<m+(obs.length-L.length))→(lH S L obs m).get k=S.get k)
 | [],obs,S,m,_,_,_,k=>by
   rw [pK]
   simp only [List.length_nil,zM,yQ]
   refine⟨by simp,fun h=>by rw [if_pos h],fun _ h=>by rw [if_neg h]⟩
 |a::L,[],S,m,h,_,_,k=>by simp at h
 |a::L,o::obs,S,m,h,hn,hf,k=>by
  have hn':=hn
  simp only [jH,yX,yS] at hn
  have hna:a∉L:=fun hm=>by rw [fJ.2 hm] at hn;exact absurd hn.1 (by simp)
  simp only [yG] at h hf
  have e1:obs.length+1- (L.length+1)=obs.length-L.length:=by omega
  rw [e1] at hf
  obtain⟨h1,h2,h3⟩:=aJO L obs (S.set a o) m (by omega) hn.2 (fun k hk=>hf k (yL _ hk)) k
  simp only [lH,yG,e1]
  refine⟨fun j hj=>?_,fun hk=>?_,fun hk hk2=>?_⟩
  ·cases j with
   |zero=>
    simp only [zG,Option.some.injEq] at hj
    subst hj
    rw [h3 hna (hf a (by simp)),aC.get_set,if_pos rfl];rfl
   |succ j=>rw [h1 j (by simpa using hj)];rfl
  ·rw [h2 hk,show L.length+1+(k-m)=(L.length+(k-m))+1 by omega,zH]
  ·rw [h3 (fun hm=>hk (yL _ hm)) hk2,aC.get_set,if_neg (fun e=>hk (by simp [e]))]
section
variable {P:Program} {U:Nat→Prop} {σ:Sg} {S:aC} {w:World} {n m:Nat}
def sgL(σ:Sg)(L:List Nat):Sg:=fun j=>match L[j]? with |some k=>σ k |none=>none
def sgR(σ σ':Sg)(L:List Nat)(m c:Nat):Sg:=fun k=>if m≤k∧k<m+c then σ' (L.length+(k-m)) else σ k
theorem aBI {O:Nat→Prop} {L:List Nat} {x:V} {v:Value} (hv:VR O w σ x v):VR O w (sgL σ L) (arg1 L x) v:=by
 cases x with
 |ptr k i c=>
  simp only [arg1]
  split
  ·rename_i j hj
   have :=(nX hj).2
   simp only [zM] at this
   cases hv with
   |ptr hs=>exact .ptr (by simp only [sgL,this];exact hs)
  ·exact .any _
 |sl k off len=>
  simp only [arg1]
  split
  ·rename_i j hj
   have :=(nX hj).2
   simp only [zM] at this
   cases hv with
   |sl hs hle ha=>exact .sl (by simp only [sgL,this];exact hs) hle ha
   |sl0 hs=>exact .sl0 (by simp only [sgL,this];exact hs)
  ·exact .any _
 |slk k off len c=>
  simp only [arg1]
  split
  ·rename_i j hj
   have :=(nX hj).2
   simp only [zM] at this
   cases hv with
   |slk hs hle ha hc=>exact .slk (by simp only [sgL,this];exact hs) hle ha hc
   |slk0 hs=>exact .slk0 (by simp only [sgL,this];exact hs)
  ·exact .any _
 |mp k=>
  simp only [arg1]
  split
  ·rename_i j hj
   have :=(nX hj).2
   simp only [zM] at this
   cases hv with
   |mp hs=>exact .mp (by simp only [sgL,this];exact hs)
  ·exact .any _
 |int k n=>exact(aU hv rfl).lift _
 |bool b=>exact(aU hv rfl).lift _
 |str s=>exact(aU hv rfl).lift _
 |nil=>exact(aU hv rfl).lift _
 |rp es cs c=>exact(aU hv rfl).lift _
 |lst es t xs=>exact(aU hv rfl).lift _
 |val u=>cases hv;exact .val _
 |_=>exact .any _
theorem aMP {O:Nat→Prop} {L:List Nat} {x:V} {v:Value} (hv:VR O w σ x v):VR O w (sgL σ L) (arg2 L x) v:=by
 by_cases ha:∃cs,x=.agg cs
 ·obtain⟨cs,rfl⟩:=ha
  cases hv with
  |agg hn hc=>
   simp only [arg2]
   refine .agg (by simpa using hn) fun i y u hy hu=>?_
   rw [zD,zA] at hy
   obtain⟨y',hy',rfl⟩:=hy
   exact aBI (hc i y' u hy' hu)
 by_cases hb:∃f cs,x=.fn f cs
 ·obtain⟨f,cs,rfl⟩:=hb
  cases hv with
  |fn hn hc=>
   simp only [arg2]
   refine .fn (by simpa using hn) fun i y u hy hu=>?_
   rw [zD,zA] at hy
   obtain⟨y',hy',rfl⟩:=hy
   exact aBI (hc i y' u hy' hu)
 ·have h1:arg2 L x=arg1 L x:=by unfold arg2;split;exact absurd ⟨_,rfl⟩ ha;exact absurd ⟨_,_,rfl⟩ hb;rfl
  rw [h1];exact aBI hv
theorem aBU {O:Nat→Prop} {L:List Nat} {σ' σ2:Sg} (hσ:∀j,σ' j≠none→σ2 (sF L m j)=σ' j) {x:V} {v:Value} (hv:VR O w σ' x v):VR O w σ2 (aQ7 L m x) v:=by
 cases x with
 |ptr k i c=>cases hv with |ptr hs=>exact .ptr ((hσ _ (by rw [hs];simp)).trans hs)
 |sl k off len=>
  cases hv with
  |sl hs hle ha=>exact .sl ((hσ _ (by rw [hs];simp)).trans hs) hle ha
  |sl0 hs=>exact .sl0 ((hσ _ (by rw [hs];simp)).trans hs)
 |slk k off len c=>
  cases hv with
  |slk hs hle ha hc=>exact .slk ((hσ _ (by rw [hs];simp)).trans hs) hle ha hc
  |slk0 hs=>exact .slk0 ((hσ _ (by rw [hs];simp)).trans hs)
 |mp k=>cases hv with |mp hs=>exact .mp ((hσ _ (by rw [hs];simp)).trans hs)
 |int k n=>exact(aU hv rfl).lift _
 |bool b=>exact(aU hv rfl).lift _
 |str s=>exact(aU hv rfl).lift _
 |nil=>exact(aU hv rfl).lift _
 |rp es cs c=>exact(aU hv rfl).lift _
 |lst es t xs=>exact(aU hv rfl).lift _
 |val u=>cases hv;exact .val _
 |_=>exact .any _
theorem aOA {O:Nat→Prop} {L:List Nat} {σ' σ2:Sg} (hσ:∀j,σ' j≠none→σ2 (sF L m j)=σ' j) {x:V} {v:Value} (hv:VR O w σ' x v):VR O w σ2 (aJE L m x) v:=by
 by_cases ha:∃cs,x=.agg cs
 ·obtain⟨cs,rfl⟩:=ha
  cases hv with
  |agg hn hc=>
   simp only [aJE]
   refine .agg (by simpa using hn) fun i y u hy hu=>?_
   rw [zD,zA] at hy
   obtain⟨y',hy',rfl⟩:=hy
   exact aBU hσ (hc i y' u hy' hu)
 by_cases hb:∃f cs,x=.fn f cs
 ·obtain⟨f,cs,rfl⟩:=hb
  cases hv with
  |fn hn hc=>
   simp only [aJE]
   refine .fn (by simpa using hn) fun i y u hy hu=>?_
   rw [zD,zA] at hy
   obtain⟨y',hy',rfl⟩:=hy
   exact aBU hσ (hc i y' u hy' hu)
 ·have h1:aJE L m x=aQ7 L m x:=by unfold aJE;split;exact absurd ⟨_,rfl⟩ ha;exact absurd ⟨_,_,rfl⟩ hb;rfl
  rw [h1];exact aBU hσ hv
theorem aOB {O:Nat→Prop} {L:List Nat} {σ' σ2:Sg} (hσ:∀j,σ' j≠none→σ2 (sF L m j)=σ' j) {x:V} {v:Value} (hv:VR O w σ' x v):VR O w σ2 (aBE L m x) v:=by
 by_cases ha:∃cs,x=.tup cs
 ·obtain⟨cs,rfl⟩:=ha
  cases hv with
  |tup hn hc=>
   simp only [aBE]
   refine .tup (by simpa using hn) fun i y u hy hu=>?_
   rw [zD,zA] at hy
   obtain⟨y',hy',rfl⟩:=hy
   exact aOA hσ (hc i y' u hy' hu)
 ·have h1:aBE L m x=aJE L m x:=by unfold aBE;split;exact absurd ⟨_,rfl⟩ ha;rfl
  rw [h1];exact aOA hσ hv
theorem jV.via {O O':Nat→Prop} (hO:∀b,O' b→O b) {σ σ':Sg} {loc:Option (Option Nat×Nat×Nat)} {o o':Obj}
 (ho:match o,o' with | .row es xs,.row es' xs'=>es'=es∧xs'=xs | .mp xs,.mp xs'=>xs'=xs | .bb l,.bb l'=>l'=l | .box cs,.box cs'=>cs'.length=cs.length∧∀(c:Nat) (y':V) (v:Value),cs'[c]? =some y'→(∀y,cs[c]? =some y→VR O w σ y v)→VR O w σ' y' v |_,_=>False)
 (h:jV O w σ loc o):jV O' w σ' loc o':=by
 cases o with
 |row es xs=>
  cases o' with
  |row es' xs'=>
   obtain⟨rfl,rfl⟩:=ho
   obtain⟨hl,h⟩:=h
   refine⟨hl,?_⟩
   rcases loc with _ | ⟨_ |b,es',cap⟩
   ·exact h
   ·exact h
   ·obtain⟨rfl,e1,arr,ty,e2,e3,e4⟩:=h
    refine⟨rfl,e1,arr,ty,e2,e3,fun i x c y hx hy=>?_⟩
    obtain⟨v,q1,q2,q3⟩:=e4 i x c y hx hy
    exact⟨v,q1,q2,q3.mono (cM.refl _ _) (fun b _ h=>hO b h) fun _ _=>rfl⟩
  |box _=>exact ho.elim
  |mp _=>exact ho.elim
  |bb _=>exact ho.elim
 |box cs=>
  cases o' with
  |row _ _=>exact ho.elim
  |mp _=>exact ho.elim
  |bb _=>exact ho.elim
  |box cs'=>
   obtain⟨hl,hc⟩:=ho
   obtain⟨b,rfl,arr,ty,e2,e3,e4⟩:=h
   refine⟨b,by rw [hl],arr,ty,e2,by omega,fun c y' hy'=>?_⟩
   obtain⟨hlt,-⟩:=List.getElem?_eq_some_iff.1 hy'
   obtain⟨v,q1,q2,q3⟩:=e4 c _ (zE (show c<cs.length by omega))
   refine⟨v,q1,q2,(hc c y' v hy' fun y hy=>?_).mono (cM.refl _ _) (fun b _ h=>hO b h) fun _ _=>rfl⟩
   rw [zE (show c<cs.length by omega)] at hy
   obtain rfl:=Option.some.inj hy
   exact q3
 |mp xs=>
  cases o' with
  |row _ _=>exact ho.elim
  |box _=>exact ho.elim
  |bb _=>exact ho.elim
  |mp xs'=>
   obtain rfl:=ho
   obtain⟨b,rfl,es,ck,e2,e3,e4⟩:=h
   refine⟨b,rfl,es,ck,e2,e3,fun i p hp=>?_⟩
   obtain⟨en,q1,q2,q3⟩:=e4 i p hp
   exact⟨en,q1,q2,q3.mono (cM.refl _ _) (fun b _ h=>hO b h) fun _ _=>rfl⟩
 |bb l=>
  cases o' with
  |row _ _=>exact ho.elim
  |box _=>exact ho.elim
  |mp _=>exact ho.elim
  |bb l'=>obtain rfl:=ho;exact h
theorem jV.arg {O O':Nat→Prop} (hO:∀b,O' b→O b) {σ:Sg} {L:List Nat} {loc:Option (Option Nat×Nat×Nat)} {o:Obj} (h:jV O w σ loc o):jV O' w (sgL σ L) loc (aKJ L o):=by
 refine jV.via hO ?_ h
 cases o with
 |row es xs=>exact⟨rfl,rfl⟩
 |mp xs=>rfl
 |bb l=>rfl
 |box cs=>
  refine⟨yC _,fun c y' v hy' hv=>?_⟩
  rw [zD,zA] at hy'
  obtain⟨y,hy,rfl⟩:=hy'
  exact aBI (hv y hy)
theorem jV.ren {O O':Nat→Prop} (hO:∀b,O' b→O b) {σ' σ2:Sg} {L:List Nat} {m:Nat} (hσ:∀j,σ' j≠none→σ2 (sF L m j)=σ' j) {loc:Option (Option Nat×Nat×Nat)} {o:Obj} (h:jV O w σ' loc o):jV O' w σ2 loc (lE L m o):=by
 refine jV.via hO ?_ h
 cases o with
 |row es xs=>exact⟨rfl,rfl⟩
 |mp xs=>rfl
 |bb l=>rfl
 |box cs=>
  refine⟨yC _,fun c y' v hy' hv=>?_⟩
  rw [zD,zA] at hy'
  obtain⟨y,hy,rfl⟩:=hy'
  exact aBU hσ (hv y hy)
theorem aB3 {f:FuncId} (hR:aS U σ S w n)(hfree:∀i,i<16→S.get (m+i)=none∧σ (m+i)=none) {args:List V} {cargs:Array Value} (hl:cargs.size=args.length)
 (ha:∀(i:Nat) v c,args[i]? =some v→cargs[i]? =some c→VR (Own U σ S) w σ v c) {L:List Nat} {ob0 ob1:List Obj} {res:V} (hf:aQ P f ob0 (args.map (arg2 L)) res ob1) (hlent:sX S L L ob0) (hnd:jH L=true)
 (hle:L.length≤ob1.length) (hle2:ob1.length≤L.length+16):
 Calls P f cargs w fun e w'=>∃cv σ',e=.returned cv∧(∀k,¬(m≤k∧k<m+16)→σ' k=σ k)∧bL σ S w n σ' (lH S L (ob1.map (lE L m)) m) w' (max n (m+16))∧aS U σ' (lH S L (ob1.map (lE L m)) m) w' (max n (m+16))∧VR (Own U σ' (lH S L (ob1.map (lE L m)) m)) w' σ' (aBE L m res) cv:=by
 obtain⟨hlen,hget⟩:=sY hlent
 have hLfree:∀k∈L,¬(m≤k∧k<m+(ob1.length-L.length)):=fun k hk ⟨h1,h2⟩=>by
  obtain⟨j,hj⟩:=zU hk
  obtain⟨o,-,h3⟩:=hget j k hj
  have :=(hfree (k-m) (by omega)).1
  rw [show m+(k-m)=k by omega,h3] at this
  cases this
 let U':Nat→Prop:=fun b=>U b∨∃k o es cap,k∉L∧S.get k=some o∧σ k=some (some b,es,cap)
 have get0:∀j o,(aL 0 ob0).get j=some o→∃k p,L[j]? =some k∧S.get k=some p∧sgL σ L j=σ k∧o=aKJ L p:=by
  intro j o hj
  rw [cQ,if_pos (zV _),zM] at hj
  obtain⟨hjl,-⟩:=List.getElem?_eq_some_iff.1 hj
  have hk:=zE (l:=L) (i:=j) (by omega)
  obtain⟨p,h1,h2⟩:=hget j _ hk
  rw [hj] at h1
  exact⟨_,p,hk,h2,by simp only [sgL,hk],Option.some.inj h1⟩
 have own0:∀b,gB (sgL σ L) (aL 0 ob0) b→∃k o es cap,k∈L∧S.get k=some o∧σ k=some (some b,es,cap):=by
  rintro b ⟨j,o,es,cap,hj,hs⟩
  obtain⟨k,p,h1,h2,h3,-⟩:=get0 j o hj
  exact⟨k,p,es,cap,zC h1,h2,h3▸hs⟩
 have own0':∀b,Own U' (sgL σ L) (aL 0 ob0) b→Own U σ S b:=by
  rintro b ((hu | ⟨k,o,es,cap,-,h2,h3⟩)|h)
  ·exact .inl hu
  ·exact .inr ⟨k,o,es,cap,h2,h3⟩
  ·obtain⟨k,o,es,cap,-,h2,h3⟩:=own0 b h;exact .inr ⟨k,o,es,cap,h2,h3⟩
 have hR0:aS U' (sgL σ L) (aL 0 ob0) w ob0.length:=by
  refine⟨fun j o hj=>?_,fun j j' o o' b es cap es' cap' hj hj' hs hs'=>?_,fun j hj=>⟨by rw [cQ,if_pos (zV _),zM,zR (by omega)],by simp [sgL,zR (show L.length≤j by omega)]⟩,fun b hb hu=>?_,fun b hu=>?_,hR.gl.less fun b h=>own0' b h⟩
  ·obtain⟨k,p,h1,h2,h3,rfl⟩:=get0 j o hj
   rw [h3]
   exact(hR.obj k p h2).arg own0'
  ·obtain⟨k,p,h1,h2,h3,-⟩:=get0 j o hj
   obtain⟨k',p',h1',h2',h3',-⟩:=get0 j' o' hj'
   obtain rfl:=hR.inj k k' p p' b es cap es' cap' h2 h2' (h3▸hs) (h3'▸hs')
   exact tD hnd j j' k h1 h1'
  ·obtain⟨k,o,es,cap,hk,h2,h3⟩:=own0 b hb
   rcases hu with hu | ⟨k',o',es',cap',hk',h2',h3'⟩
   ·exact hR.disj b ⟨k,o,es,cap,h2,h3⟩ hu
   ·obtain rfl:=hR.inj k k' o o' b es cap es' cap' h2 h2' h3 h3'
    exact hk' hk
  ·rcases hu with hu | ⟨k',o',es',cap',hk',h2',h3'⟩
   ·exact hR.ulim b hu
   ·exact hR.size ⟨k',o',es',cap',h2',h3'⟩
 refine(hf U' (sgL σ L) w cargs hR0 (by simpa using hl) fun i v c hv hc=>?_).mono fun e w' ⟨cv,σ',he,hR',hv,g⟩=>?_
 ·rw [zD,zA] at hv
  obtain⟨v',hv',rfl⟩:=hv
  exact(aMP (ha i v' c hv' hc)).mono (cM.refl _ _) (fun b _ h=>own0' b h) fun _ _=>rfl
 ·
  obtain⟨S2,hS2⟩:∃S2,S2=lH S L (ob1.map (lE L m)) m:=⟨_,rfl⟩
  have hlm:(ob1.map (lE L m)).length=ob1.length:=yC _
  have gS:=aJO L (ob1.map (lE L m)) S m (by omega) hnd (by rw [hlm];exact hLfree)
  rw [←hS2] at gS⊢
  obtain⟨c,hc⟩:∃c,ob1.length-L.length=c:=⟨_,rfl⟩
  rw [hlm] at gS
  rw [hc] at hLfree gS
  let σ2:=sgR σ σ' L m c
  have hL1:∀j k,L[j]? =some k→σ' j=σ k∧σ2 k=σ k∧σ k≠none:=by
   intro j k hj
   obtain⟨o,h1,h2⟩:=hget j k hj
   have hne:=hR.loc h2
   refine⟨?_,?_,hne⟩
   ·rw [g.sg j (by simp only [sgL,hj];exact hne)];simp only [sgL,hj]
   ·simp only [σ2,sgR,if_neg (hLfree k (zC hj))]
  have hnew:∀k,m≤k∧k<m+c→σ2 k=σ' (L.length+(k-m)):=fun k hk=>by simp only [σ2,sgR,if_pos hk]
  have hold:∀k,¬(m≤k∧k<m+c)→σ2 k=σ k:=fun k hk=>by simp only [σ2,sgR,if_neg hk]
  have hσ:∀j,σ' j≠none→σ2 (sF L m j)=σ' j:=by
   intro j hj
   have hj1:j<ob1.length:=Nat.lt_of_not_le fun hle=>hj (hR'.fresh j hle).2
   unfold sF
   split
   ·rename_i h
    have hk:=zE h
    have :L.getD j 0=L[j]:=by simp [yD,hk]
    rw [this,(hL1 j _ hk).2.1,(hL1 j _ hk).1]
   ·rename_i h
    rw [hnew _ ⟨by omega,by omega⟩]
    congr 1;omega
  have cases2:∀k o,S2.get k=some o→(S.get k=some o∧k∉L∧σ2 k=σ k)∨(∃j p,(aL 0 ob1).get j=some p∧σ2 k=σ' j∧k=sF L m j∧o=lE L m p):=by
   intro k o hk
   have cl:∀j:Nat,(ob1.map (lE L m))[j]? =some o→∃p,(aL 0 ob1).get j=some p∧o=lE L m p:=fun j hj=>by
    rw [zD,zA] at hj
    obtain⟨p,hp,rfl⟩:=hj
    exact⟨p,by rw [cQ,if_pos (zV _),zM];exact hp,rfl⟩
   by_cases h1:k∈L
   ·obtain⟨j,hj⟩:=zU h1
    rw [(gS k).1 j hj] at hk
    obtain⟨hjl,-⟩:=List.getElem?_eq_some_iff.1 hj
    right
    obtain⟨p,hp1,hp2⟩:=cl j hk
    refine⟨j,p,hp1,by rw [(hL1 j k hj).2.1,(hL1 j k hj).1],?_,hp2⟩
    unfold sF
    rw [if_pos hjl,yD,hj];rfl
   ·by_cases h2:m≤k∧k<m+c
    ·rw [(gS k).2.1 h2] at hk
     right
     obtain⟨p,hp1,hp2⟩:=cl _ hk
     refine⟨_,p,hp1,hnew k h2,?_,hp2⟩
     unfold sF
     rw [if_neg (by omega)];omega
    ·rw [(gS k).2.2 h1 h2] at hk
     exact .inl ⟨hk,h1,hold k h2⟩
  have g2:bL σ S w n σ2 S2 w' (max n (m+16)):=by
   refine⟨g.keep.wider fun b hb=>by obtain⟨k,o,es,cap,-,h2,h3⟩:=own0 b hb;exact⟨k,o,es,cap,h2,h3⟩,fun b hb hO=>?_,fun k hk=>hold k fun h=>hk (by have :=(hfree (k-m) (by omega)).2;rwa [show m+(k-m)=k by omega] at this),by omega⟩
   obtain⟨k,o,es,cap,hk,hs⟩:=hO
   rcases cases2 k o hk with ⟨h1,-,h2⟩| ⟨j,p,h1,h2,-,-⟩
   ·exact⟨k,o,es,cap,h1,h2▸hs⟩
   ·obtain⟨k,o,es,cap,-,h2,h3⟩:=own0 b (g.own b hb ⟨j,p,es,cap,h1,h2▸hs⟩);exact⟨k,o,es,cap,h2,h3⟩
  have own2:∀b,Own U σ2 S2 b→Own U' σ' (aL 0 ob1) b:=by
   rintro b (hu | ⟨k,o,es,cap,hk,hs⟩)
   ·exact .inl (.inl hu)
   ·rcases cases2 k o hk with ⟨h1,h3,h2⟩| ⟨j,p,h1,h2,-,-⟩
    ·exact .inl (.inr ⟨k,o,es,cap,h3,h1,h2▸hs⟩)
    ·exact .inr ⟨j,p,es,cap,h1,h2▸hs⟩
  have apart:∀b k o es cap,k∉L→S.get k=some o→σ k=some (some b,es,cap)→¬gB σ' (aL 0 ob1) b:=by
   intro b k o es cap hk h1 h2 hO
   have hb:=hR.size ⟨k,o,es,cap,h1,h2⟩
   obtain⟨k',o',es',cap',hk',h1',h2'⟩:=own0 b (g.own b hb hO)
   obtain rfl:=hR.inj k k' o o' b es cap es' cap' h1 h1' h2 h2'
   exact hk hk'
  refine⟨cv,σ2,he,fun k hk=>hold k (by omega),g2,hR.step g2 (fun k hk=>?_) (fun k k' o o' b es cap es' cap' hk hk' hs hs'=>?_) (fun k o hk=>?_),(aOB hσ hv).mono (cM.refl _ _) (fun b _ h=>own2 b h) fun _ _=>rfl⟩
  ·have h1:k∉L:=fun hm=>by
    obtain⟨j,hj⟩:=zU hm
    obtain⟨o,-,h3⟩:=hget j k hj
    rw [(hR.fresh k (by omega)).1] at h3;cases h3
   have h2:¬(m≤k∧k<m+c):=by omega
   rw [(gS k).2.2 h1 h2,hold k h2]
   exact hR.fresh k (by omega)
  ·rcases cases2 k o hk with ⟨h1,h3,h2⟩| ⟨j,p,h1,h2,h4,-⟩<;> rcases cases2 k' o' hk' with ⟨h1',h3',h2'⟩| ⟨j',p',h1',h2',h4',-⟩
   ·exact hR.inj k k' o o' b es cap es' cap' h1 h1' (h2▸hs) (h2'▸hs')
   ·exact absurd ⟨j',p',es',cap',h1',h2'▸hs'⟩ (apart b k o es cap h3 h1 (h2▸hs))
   ·exact absurd ⟨j,p,es,cap,h1,h2▸hs⟩ (apart b k' o' es' cap' h3' h1' (h2'▸hs'))
   ·rw [h4,h4',hR'.inj j j' p p' b es cap es' cap' h1 h1' (h2▸hs) (h2'▸hs')]
  ·rcases cases2 k o hk with ⟨h1,h3,h2⟩| ⟨j,p,h1,h2,-,rfl⟩
   ·left
    refine⟨h1,fun b es cap hs=>g.keep.block b (hR.size ⟨k,o,es,cap,h1,hs⟩) fun hO=>?_⟩
    obtain⟨k',o',es',cap',hk',h1',h2'⟩:=own0 b hO
    obtain rfl:=hR.inj k k' o o' b es cap es' cap' h1 h1' hs h2'
    exact h3 hk'
   ·right
    rw [h2]
    exact(hR'.obj j p h1).ren own2 hσ
def aC4(Fz:List Nat):V→Bool
 | .sl k _ _=>gE k Fz
 | .slk k _ _ _=>gE k Fz
 | .ptr _ _ _=>false
 |_=>true
def aC3(Fz:List Nat):V→Bool
 | .agg cs=>cs.all (aC4 Fz)
 | .fn _ cs=>cs.all (aC4 Fz)
 |v=>aC4 Fz v
def aIE(S:aC)(Fz:List Nat):List V→Prop
 | []=>True
 |v::r=>(mI S v∧aC3 Fz v=true)∧aIE S Fz r
theorem aER {S:aC} {Fz:List Nat} :∀ {l:List V},aIE S Fz l→∀v∈l,mI S v∧aC3 Fz v=true
 | [],_,v,h=>by simp at h
 |a::r,h,v,hv=>by
  rcases List.mem_cons.1 hv with rfl |hv
  ·exact h.1
  ·exact aER h.2 v hv
def oP(P:Program)(f:FuncId)(args:List V)(S:aC)(m:Nat)(K:V→aC→Nat→Prop):Prop:=
 ∃(Fz:List Nat) (res:V),aQ P f [] (args.map (pur S)) res []∧aIE S Fz args∧K res (iJ S Fz) (m+1)
theorem aG8(hR:aS U σ S w n) {Fz:List Nat} {x:V} {v:Value} (hv:VR (Own U σ S) w σ x v)(hok:gZ S x)(hb:aC4 Fz x=true):VR (Own U σ (iJ S Fz)) w (fun _=>none) (qW S x) v:=by
 have sub:∀ {x v},VR (Own U σ S) w (fun _=>none) x v→VR (Own U σ (iJ S Fz)) w (fun _=>none) x v:=fun h=>h.mono (cM.refl _ _) (fun b _ h=>mZ h) fun _ _=>rfl
 have out:∀k o,S.get k=some o→gE k Fz=true→∀b es cap,σ k=some (some b,es,cap)→¬Own U σ (iJ S Fz) b:=fun k o ho hk b es cap hs hO=>by
  rcases hO with hu | ⟨k',o',es',cap',h1,h2⟩
  ·exact hR.disj b ⟨k,o,es,cap,ho,hs⟩ hu
  ·obtain⟨h3,h4⟩:=fT h1
   obtain rfl:=hR.inj k k' o o' b es cap es' cap' ho h3 hs h2
   exact h4 (fJ.1 hk)
 cases x with
 |sl k off len=>
  simp only [qW]
  split
  ·rename_i es xs ho
   have hle:off+len≤xs.length:=by simpa [gZ,ho] using hok
   exact aH3 hR (fun b h=>mZ h) hv ho hle (out k _ ho hb)
  ·exact .any _
 |slk k off len c=>
  simp only [qW]
  split
  ·rename_i es xs ho
   have hle:off+len≤xs.length:=by simpa [gZ,ho] using hok
   exact aH4 hR (fun b h=>mZ h) hv ho hle (out k _ ho hb) _ (fun h=>yA h)
  ·exact .any _
 |ptr k i c=>simp [aC4] at hb
 |_=>exact sub (aGL (S:=S) hv rfl)
theorem bBP(hR:aS U σ S w n) {Fz:List Nat} {x:V} {v:Value} (hv:VR (Own U σ S) w σ x v)(hok:mI S x)(hb:aC3 Fz x=true):VR (Own U σ (iJ S Fz)) w (fun _=>none) (pur S x) v:=by
 by_cases ha:∃cs,x=.agg cs
 ·obtain⟨cs,rfl⟩:=ha
  cases hv with
  |agg hn hc=>
   simp only [pur]
   refine .agg (by simpa using hn) fun i y u hy hu=>?_
   rw [zD,zA] at hy
   obtain⟨y',hy',rfl⟩:=hy
   exact aG8 hR (hc i y' u hy' hu) (hok y' (zC hy')) (List.all_eq_true.1 hb y' (zC hy'))
 by_cases hb':∃f cs,x=.fn f cs
 ·obtain⟨f,cs,rfl⟩:=hb'
  cases hv with
  |fn hn hc=>
   simp only [pur]
   refine .fn (by simpa using hn) fun i y u hy hu=>?_
   rw [zD,zA] at hy
   obtain⟨y',hy',rfl⟩:=hy
   exact aG8 hR (hc i y' u hy' hu) (hok y' (zC hy')) (List.all_eq_true.1 hb y' (zC hy'))
 ·have h1:pur S x=qW S x:=by unfold pur;split;exact absurd ⟨_,rfl⟩ ha;exact absurd ⟨_,_,rfl⟩ hb';rfl
  rw [h1]
  refine aG8 hR hv ?_ ?_
  ·unfold mI at hok
   split at hok
   ·exact absurd ⟨_,rfl⟩ ha
   ·exact absurd ⟨_,_,rfl⟩ hb'
   ·exact hok
  ·unfold aC3 at hb
   split at hb
   ·exact absurd ⟨_,rfl⟩ ha
   ·exact absurd ⟨_,_,rfl⟩ hb'
   ·exact hb
theorem aAG {f:FuncId} (hR:aS U σ S w n) {args:List V} {cargs:Array Value} {res:V} {Fz:List Nat} (hl:cargs.size=args.length)(ha:∀(i:Nat) v c,args[i]? =some v→cargs[i]? =some c→VR (Own U σ S) w σ v c)
 (hok:aIE S Fz args) (hf:aQ P f [] (args.map (pur S)) res []):
 Calls P f cargs w fun e w'=>∃cv,e=.returned cv∧VR (Own U σ (iJ S Fz)) w' σ res cv∧cM (fun _=>False) w w':=by
 have hR':=hR.frz Fz
 have ownlt:∀b,Own U σ (iJ S Fz) b→b<w.heap.size:=fun b h=>h.elim (hR.ulim b) hR'.size
 have noown:∀(σ':Sg) (b:Nat),¬gB σ' ([]:aC) b:=fun σ' b ⟨k,o,es,cap,h,_⟩=>by simp [aC.get] at h
 refine(hf (Own U σ (iJ S Fz)) (fun _=>none) w cargs (aS.none _ w ownlt hR'.gl) (by simpa using hl) fun i v c hv hc=>?_).mono fun e w' ⟨cv,σ',he,hR2,hv,g⟩=>⟨cv,he,?_,?_⟩
 ·rw [zD,zA] at hv
  obtain⟨v',hv',rfl⟩:=hv
  obtain⟨o1,o2⟩:=aER hok v' (zC hv')
  exact(bBP hR (ha i v' c hv' hc) o1 o2).mono (cM.refl _ _) (fun b _ h=>h.elim id fun h=>absurd h (noown _ b)) fun _ _=>rfl
 ·exact hv.mono (cM.refl _ _) (fun b _ h=>.inl h) fun k hr=>absurd (hR2.fresh k (zV _)).2 (hv.refs k hr)
 ·exact g.keep.wider fun b h=>(noown _ b h).elim
def qR(P:Program)(f:FuncId)(args:List V)(S:aC)(m:Nat)(K:V→aC→Nat→Prop):Prop:=
 ∃(L:List Nat) (ob0 ob1:List Obj) (res:V),FnM P f ob0 (args.map (arg2 L)) res ob1∧sX S L L ob0∧jH L=true∧Nat.ble ob1.length 16=true∧
  K (aBE [] m res) (lH (iJ S L) [] (ob1.map (lE [] m)) m) (m+16)
theorem aAN {f:FuncId} (hR:aS U σ S w n)(hfree:∀i,i<16→S.get (m+i)=none∧σ (m+i)=none) {args:List V} {cargs:Array Value} (hl:cargs.size=args.length)
 (ha:∀(i:Nat) v c,args[i]? =some v→cargs[i]? =some c→VR (Own U σ S) w σ v c) {L:List Nat} {ob0 ob1:List Obj} {res:V} (hf:FnM P f ob0 (args.map (arg2 L)) res ob1) (hlent:sX S L L ob0) (hnd:jH L=true)
 (hle2:ob1.length≤16):
 Calls P f cargs w fun e w'=>∃cv σ',e=.returned cv∧(∀k,¬(m≤k∧k<m+16)→σ' k=σ k)∧bL σ S w n σ' (lH (iJ S L) [] (ob1.map (lE [] m)) m) w' (max n (m+16))∧
  aS U σ' (lH (iJ S L) [] (ob1.map (lE [] m)) m) w' (max n (m+16))∧VR (Own U σ' (lH (iJ S L) [] (ob1.map (lE [] m)) m)) w' σ' (aBE [] m res) cv:=by
 obtain⟨hlen,hget⟩:=sY hlent
 let U':Nat→Prop:=fun b=>U b∨∃k o es cap,k∉L∧S.get k=some o∧σ k=some (some b,es,cap)
 have get0:∀j o,(aL 0 ob0).get j=some o→∃k p,L[j]? =some k∧S.get k=some p∧sgL σ L j=σ k∧o=aKJ L p:=by
  intro j o hj
  rw [cQ,if_pos (zV _),zM] at hj
  obtain⟨hjl,-⟩:=List.getElem?_eq_some_iff.1 hj
  have hk:=zE (l:=L) (i:=j) (by omega)
  obtain⟨p,h1,h2⟩:=hget j _ hk
  rw [hj] at h1
  exact⟨_,p,hk,h2,by simp only [sgL,hk],Option.some.inj h1⟩
 have own0:∀b,gB (sgL σ L) (aL 0 ob0) b→∃k o es cap,k∈L∧S.get k=some o∧σ k=some (some b,es,cap):=by
  rintro b ⟨j,o,es,cap,hj,hs⟩
  obtain⟨k,p,h1,h2,h3,-⟩:=get0 j o hj
  exact⟨k,p,es,cap,zC h1,h2,h3▸hs⟩
 have own0':∀b,Own U' (sgL σ L) (aL 0 ob0) b→Own U σ S b:=by
  rintro b ((hu | ⟨k,o,es,cap,-,h2,h3⟩)|h)
  ·exact .inl hu
  ·exact .inr ⟨k,o,es,cap,h2,h3⟩
  ·obtain⟨k,o,es,cap,-,h2,h3⟩:=own0 b h;exact .inr ⟨k,o,es,cap,h2,h3⟩
 have hR0:aS U' (sgL σ L) (aL 0 ob0) w ob0.length:=by
  refine⟨fun j o hj=>?_,fun j j' o o' b es cap es' cap' hj hj' hs hs'=>?_,fun j hj=>⟨by rw [cQ,if_pos (zV _),zM,zR (by omega)],by simp [sgL,zR (show L.length≤j by omega)]⟩,fun b hb hu=>?_,fun b hu=>?_,hR.gl.less fun b h=>own0' b h⟩
  ·obtain⟨k,p,h1,h2,h3,rfl⟩:=get0 j o hj
   rw [h3]
   exact(hR.obj k p h2).arg own0'
  ·obtain⟨k,p,h1,h2,h3,-⟩:=get0 j o hj
   obtain⟨k',p',h1',h2',h3',-⟩:=get0 j' o' hj'
   obtain rfl:=hR.inj k k' p p' b es cap es' cap' h2 h2' (h3▸hs) (h3'▸hs')
   exact tD hnd j j' k h1 h1'
  ·obtain⟨k,o,es,cap,hk,h2,h3⟩:=own0 b hb
   rcases hu with hu | ⟨k',o',es',cap',hk',h2',h3'⟩
   ·exact hR.disj b ⟨k,o,es,cap,h2,h3⟩ hu
   ·obtain rfl:=hR.inj k k' o o' b es cap es' cap' h2 h2' h3 h3'
    exact hk' hk
  ·rcases hu with hu | ⟨k',o',es',cap',hk',h2',h3'⟩
   ·exact hR.ulim b hu
   ·exact hR.size ⟨k',o',es',cap',h2',h3'⟩
 refine(hf U' (sgL σ L) w cargs hR0 (by simpa using hl) fun i v c hv hc=>?_).mono fun e w' ⟨cv,σ',he,hR',hv,g⟩=>?_
 ·rw [zD,zA] at hv
  obtain⟨v',hv',rfl⟩:=hv
  exact(aMP (ha i v' c hv' hc)).mono (cM.refl _ _) (fun b _ h=>own0' b h) fun _ _=>rfl
 ·obtain⟨S2,hS2⟩:∃S2,S2=lH (iJ S L) [] (ob1.map (lE [] m)) m:=⟨_,rfl⟩
  have hlm:(ob1.map (lE [] m)).length=ob1.length:=yC _
  have gS:=fun k=>pK (ob1.map (lE [] m)) (iJ S L) m k
  rw [←hS2] at gS⊢
  obtain⟨c,hc⟩:∃c,ob1.length=c:=⟨_,rfl⟩
  rw [hlm,hc] at gS
  let σ2:Sg:=fun k=>if m≤k∧k<m+c then σ' (k-m) else σ k
  have hnew:∀k,m≤k∧k<m+c→σ2 k=σ' (k-m):=fun k hk=>by simp only [σ2,if_pos hk]
  have hold:∀k,¬(m≤k∧k<m+c)→σ2 k=σ k:=fun k hk=>by simp only [σ2,if_neg hk]
  have hσ:∀j,σ' j≠none→σ2 (sF [] m j)=σ' j:=by
   intro j hj
   have hj1:j<ob1.length:=Nat.lt_of_not_le fun hle=>hj (hR'.fresh j hle).2
   have :sF [] m j=m+j:=by simp [sF]
   rw [this,hnew _ ⟨by omega,by omega⟩]
   congr 1;omega
  have cases2:∀k o,S2.get k=some o→(S.get k=some o∧k∉L∧σ2 k=σ k)∨(∃j p,(aL 0 ob1).get j=some p∧σ2 k=σ' j∧k=m+j∧o=lE [] m p):=by
   intro k o hk
   rw [gS k] at hk
   split at hk
   ·rename_i h2
    right
    rw [zD,zA] at hk
    obtain⟨p,hp,rfl⟩:=hk
    exact⟨k-m,p,by rw [cQ,if_pos (zV _),zM];exact hp,hnew k h2,by omega,rfl⟩
   ·rename_i h2
    obtain⟨h3,h4⟩:=fT hk
    exact .inl ⟨h3,h4,hold k h2⟩
  have g2:bL σ S w n σ2 S2 w' (max n (m+16)):=by
   refine⟨g.keep.wider fun b hb=>by obtain⟨k,o,es,cap,-,h2,h3⟩:=own0 b hb;exact⟨k,o,es,cap,h2,h3⟩,fun b hb hO=>?_,fun k hk=>hold k fun h=>hk (by have :=(hfree (k-m) (by omega)).2;rwa [show m+(k-m)=k by omega] at this),by omega⟩
   obtain⟨k,o,es,cap,hk,hs⟩:=hO
   rcases cases2 k o hk with ⟨h1,-,h2⟩| ⟨j,p,h1,h2,-,-⟩
   ·exact⟨k,o,es,cap,h1,h2▸hs⟩
   ·obtain⟨k,o,es,cap,-,h2,h3⟩:=own0 b (g.own b hb ⟨j,p,es,cap,h1,h2▸hs⟩);exact⟨k,o,es,cap,h2,h3⟩
  have own2:∀b,Own U σ2 S2 b→Own U' σ' (aL 0 ob1) b:=by
   rintro b (hu | ⟨k,o,es,cap,hk,hs⟩)
   ·exact .inl (.inl hu)
   ·rcases cases2 k o hk with ⟨h1,h3,h2⟩| ⟨j,p,h1,h2,-,-⟩
    ·exact .inl (.inr ⟨k,o,es,cap,h3,h1,h2▸hs⟩)
    ·exact .inr ⟨j,p,es,cap,h1,h2▸hs⟩
  have apart:∀b k o es cap,k∉L→S.get k=some o→σ k=some (some b,es,cap)→¬gB σ' (aL 0 ob1) b:=by
   intro b k o es cap hk h1 h2 hO
   have hb:=hR.size ⟨k,o,es,cap,h1,h2⟩
   obtain⟨k',o',es',cap',hk',h1',h2'⟩:=own0 b (g.own b hb hO)
   obtain rfl:=hR.inj k k' o o' b es cap es' cap' h1 h1' h2 h2'
   exact hk hk'
  refine⟨cv,σ2,he,fun k hk=>hold k (by omega),g2,hR.step g2 (fun k hk=>?_) (fun k k' o o' b es cap es' cap' hk hk' hs hs'=>?_) (fun k o hk=>?_),(aOB hσ hv).mono (cM.refl _ _) (fun b _ h=>own2 b h) fun _ _=>rfl⟩
  ·have h2:¬(m≤k∧k<m+c):=by omega
   refine⟨?_,by rw [hold k h2];exact(hR.fresh k (by omega)).2⟩
   rw [gS k,if_neg h2]
   cases hd:(iJ S L).get k with
   |none=>rfl
   |some o=>
    have :=(fT hd).1
    rw [(hR.fresh k (by omega)).1] at this
    cases this
  ·rcases cases2 k o hk with ⟨h1,h3,h2⟩| ⟨j,p,h1,h2,h4,-⟩<;> rcases cases2 k' o' hk' with ⟨h1',h3',h2'⟩| ⟨j',p',h1',h2',h4',-⟩
   ·exact hR.inj k k' o o' b es cap es' cap' h1 h1' (h2▸hs) (h2'▸hs')
   ·exact absurd ⟨j',p',es',cap',h1',h2'▸hs'⟩ (apart b k o es cap h3 h1 (h2▸hs))
   ·exact absurd ⟨j,p,es,cap,h1,h2▸hs⟩ (apart b k' o' es' cap' h3' h1' (h2'▸hs'))
   ·rw [h4,h4',hR'.inj j j' p p' b es cap es' cap' h1 h1' (h2▸hs) (h2'▸hs')]
  ·rcases cases2 k o hk with ⟨h1,h3,h2⟩| ⟨j,p,h1,h2,-,rfl⟩
   ·left
    refine⟨h1,fun b es cap hs=>g.keep.block b (hR.size ⟨k,o,es,cap,h1,hs⟩) fun hO=>?_⟩
    obtain⟨k',o',es',cap',hk',h1',h2'⟩:=own0 b hO
    obtain rfl:=hR.inj k k' o o' b es cap es' cap' h1 h1' hs h2'
    exact h3 hk'
   ·right
    rw [h2]
    exact(hR'.obj j p h1).ren own2 hσ
end
end Go.Sk
