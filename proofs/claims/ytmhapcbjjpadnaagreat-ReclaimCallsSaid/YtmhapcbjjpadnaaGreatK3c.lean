/- Caches. -/
import Derived.Test.YtmhapcbjjpadnaaGreatK2c
set_option linter.all false
open Array renaming toList_extract→yK,size_append→yQ,toList_map→yW
open Bool renaming not_eq_true'→yT,and_eq_true→yY
open List renaming mem_of_getElem?→zC,getElem?_map→zD,getElem?_eq_getElem→zE,getElem?_cons_zero→zG,getElem?_cons_succ→zH,getElem?_append→zI,mem_of_mem_take→zJ,getElem?_toArray→zK,take_append_drop→zM,getElem?_take→zO,take_zero→zP,append_nil→zQ,size_toArray→zR,mem_of_mem_drop→zS,getElem?_of_mem→zT,getElem?_drop→zV,length_map→yC,getD_eq_getElem?_getD→yD,append_assoc→yE,map_toArray→yF,length_cons→yG,length_replicate→yH,getElem?_eq_none→yI,drop_zero→yJ,replicate→yL,mem_cons_of_mem→yM,map_cons→yO,length_append→yP,map_nil→yS,take_length→yU,length_take→yV,getElem_mem→yX
open Nat renaming mul_le_mul_right→zF,add_mul→zL,sub_zero→zN,add_zero→zU,le_refl→zW,min_zero→zX,eq_of_beq_eq_true→zY,one_mul→zZ,zero_le→yA,min→yN,zero_add→yR
open Option renaming map_eq_some_iff→zA
namespace Go.Sk
open Go Go.RowKit
variable [gL]
section
variable {P:Program} {U:Nat->Prop} {σ:Sg} {S:aD} {w:World} {n m:Nat} {ρ:Operand->Value} {e:A->V} {K:V->aD->Nat->Prop}
theorem aV.moveC(f:Nat)(G:aV U σ S w n)(H:S.get m=none/\σ m=none) {k:Nat} {o0 o:Obj} (R:S.get k=some o0) {b es cap:Nat} (W:σ k=some (some b,es,cap)) {w':World}
 (ac:w'.os=w.os) (J:w'.tape=w.tape) (T:w'.output=w.output) (ad:w'.heap.size=w.heap.size) (E:∀j,j≠b->w'.heap[j]? =w.heap[j]?)
 (ho:bP σ S w n (σ.put m (some b,es,f)) ((S.del k).set m o) w' (max n (m+1))->lM (Own U (σ.put m (some b,es,f)) ((S.del k).set m o)) w' (σ.put m (some b,es,f)) (some (some b,es,f)) o):
 bP σ S w n (σ.put m (some b,es,f)) ((S.del k).set m o) w' (max n (m+1))/\aV U (σ.put m (some b,es,f)) ((S.del k).set m o) w' (max n (m+1)):=by
 have C:∀j p,((S.del k).set m o).get j=some p->(j=m/\p=o)\/(j≠m/\j≠k/\S.get j=some p):=by
  intro j p D;rw [aD.get_set] at D;split at D
  ·rename_i h;exact .inl ⟨h,(zsi D).symm⟩
  ·rename_i h;rw [aD.get_del] at D;split at D
   ·cases D
   ·rename_i h2;exact .inr ⟨h,h2,D⟩
 have g:bP σ S w n (σ.put m (some b,es,f)) ((S.del k).set m o) w' (max n (m+1)):=by
  refine⟨⟨ac,J,T,by omega,λc _ hc=>E c λh=>hc (h▸⟨k,o0,es,cap,R,W⟩)⟩,λc hc hO=>?_,λj D=>Sg.put_other _ _ (λe=>D (e▸H.2)),by omega⟩;obtain⟨j,p,e1,M,D,F⟩:=hO;rcases C j p D with ⟨rfl,-⟩| ⟨h1,h2,h3⟩
  ·rw [Sg.put_same] at F;simp only [zse,Prod.mk.injEq] at F;obtain⟨rfl,-,-⟩:=F;exact⟨k,o0,es,cap,R,W⟩
  ·rw [Sg.put_other _ _ h1] at F;exact⟨j,p,e1,M,h3,F⟩
 refine⟨g,G.step g (λj D=>?_) (λj j' p p' c e1 M e2 c2 h1 ab B z=>?_) λj p D=>?_⟩
 ·rw [aD.get_set,if_neg (by omega),Sg.put_other _ _ (by omega),aD.get_del];refine⟨?_,(G.fresh j (by omega)).2⟩;split
  ·rfl
  ·exact(G.fresh j (by omega)).1
 ·rcases C j p h1 with ⟨rfl,-⟩| ⟨Y,Z,O⟩<;> rcases C j' p' ab with ⟨rfl,-⟩| ⟨N,aa,Q⟩
  ·rfl
  ·rw [Sg.put_same] at B;rw [Sg.put_other _ _ N] at z;simp only [zse,Prod.mk.injEq] at B;obtain⟨rfl,-,-⟩:=B;exact absurd (G.inj j' k p' o0 b e2 c2 es cap Q R z W) aa
  ·rw [Sg.put_same] at z;rw [Sg.put_other _ _ Y] at B;simp only [zse,Prod.mk.injEq] at z;obtain⟨rfl,-,-⟩:=z;exact absurd (G.inj j k p o0 b e1 M es cap O R B W) Z
  ·rw [Sg.put_other _ _ Y] at B;rw [Sg.put_other _ _ N] at z;exact G.inj j j' p p' c e1 M e2 c2 O Q B z
 ·rcases C j p D with ⟨rfl,rfl⟩| ⟨Y,Z,O⟩
  ·right;rw [Sg.put_same];exact ho g
  ·left;refine⟨O,λc e1 M B=>E c λae=>Z ?_⟩;subst ae;exact G.inj j k p o0 c e1 M es cap O R B W
theorem sR(f:Nat)(base:Option Addr)(len cap:Nat):(Builtin.firstCells f 0 (.slice base len cap)).run P w=.ok #[] w:=by
 cases base with
 |none=>simp [Builtin.firstCells]
 |some a=>simp [Builtin.firstCells,loadCells,loadCellsFrom]
theorem kL(w:World)(need old:Nat)(el:TypeId):need<=grownCap w need old el:=by unfold grownCap;simp only [Question.cut];omega
theorem oY(w:World)(need old:Nat)(el:TypeId)(h:need<=9223372036854775807):need<=grownCap w need old el/\grownCap w need old el<=9223372036854775807:=by have f:=Nat.mod_lt (w.tape w.drawn (.appendCap need old el)) (show 0<2^63-need by omega);simp only [grownCap,Question.cut] at *;omega
def kD(S:aD):List Nat->aD
 | []=>S
 |k::r=>(kD S r).del k
theorem iP {S:aD} :∀ {l:List Nat} {k:Nat} {o:Obj},(kD S l).get k=some o->S.get k=some o/\k∉l
 | [],_,_,h=>⟨h,by simp⟩
 |a::r,k,o,h=>by
  simp only [kD,aD.get_del] at h;split at h
  ·cases h
  ·rename_i f;obtain⟨j,h2⟩:=iP h;exact⟨j,by simp [f,h2]⟩
theorem aVH {S:aD} {k:Nat} (h:S.get k=none)(l:List Nat):(kD S l).get k=none:=by
 cases f:(kD S l).get k with
 |none=>rfl
 |some o=>rw [(iP f).1] at h;cases h
theorem qH {f:List Nat} {b:Nat} (h:Own U σ (kD S f) b):Own U σ S b:=h.imp id λ⟨k,o,es,cap,j,h2⟩=>⟨k,o,es,cap,(iP j).1,h2⟩
theorem aV.frz(hR:aV U σ S w n)(Fz:List Nat):aV U σ (kD S Fz) w n where
 obj:=λk o hk=>by
  have h:=hR.obj k o (iP hk).1;have g0:∀ {τ:Sg} {x:V} {v:Value},VR (Own U σ S) w τ x v->VR (Own U σ (kD S Fz)) w τ x v:=λh=>h.mono (cG.refl _ _) (λb _ hb=>qH hb) λ_ _=>rfl
  cases o with
  |row es xs=>
   obtain⟨hl,h⟩:=h;refine⟨hl,?_⟩;rcases hs:σ k with _ | ⟨_ |b,es',cap⟩
   ·rw [hs] at h;exact h
   ·rw [hs] at h;exact h
   ·rw [hs] at h;obtain⟨rfl,e1,arr,ty,e2,e3,e4⟩:=h;refine⟨rfl,e1,arr,ty,e2,e3,λi x c y hx hy=>?_⟩;obtain⟨v,q1,q2,q3⟩:=e4 i x c y hx hy;exact⟨v,q1,q2,g0 q3⟩
  |box cs=> obtain⟨b,e1,arr,ty,e2,e3,e4⟩:=h;refine⟨b,e1,arr,ty,e2,e3,λc y hy=>?_⟩;obtain⟨v,q1,q2,q3⟩:=e4 c y hy;exact⟨v,q1,q2,g0 q3⟩
  |mp xs=> obtain⟨b,e1,es,ck,e2,e3,e4⟩:=h;refine⟨b,e1,es,ck,e2,e3,λi p hp=>?_⟩;obtain⟨en,q1,q2,q3⟩:=e4 i p hp;exact⟨en,q1,q2,g0 q3⟩
  |bb l=>exact h
 inj:=λk k' o o' b es cap es' cap' h1 h2=>hR.inj k k' o o' b es cap es' cap' (iP h1).1 (iP h2).1
 fresh:=λk hk=>⟨aVH (hR.fresh k hk).1 Fz,(hR.fresh k hk).2⟩
 disj:=λb ⟨k,o,es,cap,h1,h2⟩=>hR.disj b ⟨k,o,es,cap,(iP h1).1,h2⟩
 ulim:=hR.ulim
 gl:=hR.gl.less λb h=>qH h
theorem bP.frz(f:List Nat):bP σ S w n σ (kD S f) w n:= ⟨cG.refl _ _,λb _ ⟨k,o,es,cap,j,h2⟩=>⟨k,o,es,cap,(iP j).1,h2⟩,λ_ _=>rfl,zW _⟩
theorem VR.lst_of_box {O:Nat->Prop} {b:Nat} {cs:List V} {arr:Array Value} {ty:TypeId} {M:Nat×Nat} (N:¬O b)(J:w.heap[b]? =some (.cells arr ty M))(T:cs.all cN=true)
 (E:∀(c:Nat) (y:V),cs[c]? =some y->∃v,arr[c]? =some v/\v.oneCell'=true/\VR O w (λ_=>none) y v) (h cap:Nat) (Q:h<=cs.length) (j:h<=cap):
 VR O w σ (.lst 1 false ((cs.take h).map λc=> [c])) (.slice (some ⟨b,0,none⟩) h cap):=by
 have f:((cs.take h).map λc=> [c]).length=h:=by simp;omega
 have B:VR O w σ (.lst 1 false ((cs.take h).map λc=> [c])) (.slice (some ⟨b,0,none⟩) ((cs.take h).map λc=> [c]).length cap):=by
  refine .lst b 0 (λi _=>(arr[i]?).getD undef) (λ_=>⟨rfl,N,(Array.getElem?_eq_some_iff.1 J).1⟩) (λx C=>by obtain⟨c,-,rfl⟩:=List.mem_map.1 C;rfl) (by rw [f];exact j) (by simp) (λi c G F=>?_) (λi c G F=>?_) λi x c y C H=>?_
  ·rw [f] at G;obtain rfl:c=0:=by omega
   obtain⟨v,q1,-⟩:=E i _ (zE (by omega));simp [World.cell?,J,q1]
  ·rw [f] at G;obtain⟨v,q1,q2,-⟩:=E i _ (zE (by omega));rw [q1];exact q2
  ·rw [zD,zA] at C;obtain⟨z,D,rfl⟩:=C
   cases c with
   |succ c=>simp at H
   |zero=>
    simp only [zG,zse] at H;subst H;rw [zO] at D;split at D
    ·obtain⟨v,q1,-,R⟩:=E i _ D;rw [q1];exact R
    ·cases D
 rw [f] at B;exact B
theorem aUX {t el:TypeId} {len:Nat} {x:Operand} {hi:Option Operand} {a:A} {T:Option A} (ht:P.underlying t=some (.array len el))(hz:bG P el=some 1)(hx:VR (Own U σ S) w σ (e a) (ρ x))
 (f:match hi,T with |none,none=>True |some l,some l'=>VR (Own U σ S) w σ (e l') (ρ l)|_,_=>False) (R:aV U σ S w n) (af:m<=n)
 (B:pO S m (.aslc len a T) e K):rL P U σ S w n m ρ (.slice t x none hi none) K:=by
 have G:max n m=n:=by omega
 simp only [pO] at B;split at B
 ·rename_i k Z;split at B
  ·rename_i cs ho;split at B
   ·rename_i k2 h Q;obtain⟨⟨hl,hf,h0,h1⟩,B⟩:=B;rw [Z] at hx;generalize M:ρ x=va at hx
    cases hx with
    | @ptr _ _ _ _ b es cap hs=>
      have H:=R.obj k _ ho;rw [hs] at H;obtain⟨b',he,ae,ty,hh,ag,D⟩:=H;simp only [zse,Prod.mk.injEq] at he;obtain⟨rfl,rfl,rfl⟩:=he
      have N:bnd ρ hi (len:Int) h:=by
       cases hi with
       |none=>
        cases T with
        |none=>simp only [V.int.injEq] at Q;exact Q.2.symm
        |some _=>exact f.elim
       |some z=>
        cases T with
        |none=>exact f.elim
        |some z'=>
         simp only at f Q;rw [Q] at f;generalize hv:ρ z=v at f;cases f
         exact⟨_,hv⟩
      have j:kD S [k]=S.del k:=rfl
      have hO:¬Own U σ (S.del k) b:=by
       rintro (hu | ⟨k',E,W,F,C,Y⟩)
       ·exact R.disj b ⟨k,_,_,_,ho,hs⟩ hu
       ·rw [aD.get_del] at C;split at C
        ·cases C
        ·rename_i aa;exact aa (R.inj k k' _ E b _ _ W F ho C hs Y).symm
      have hg:bP σ S w n σ (S.del k) w n:=j▸bP.frz [k];have hr:aV U σ (S.del k) w n:=j▸R.frz [k]
      have ad:∀(E:Oper),E.op=.slice t x none hi none->(execOp ρ E).run P w=.ok (.value (.slice (some ⟨b,0*cs.length+0,none⟩) h.toNat len)) w:=by
       intro E J
       cases hi with
       |none=> have N:h=(len:Int):=N;subst N;simp [execOp,J,Instr.sliceAt,run_underlying ht,Instr.sliceBounds,M,bE hz,Instr.sureAddr,kW]
       |some z=> obtain⟨kz,ac⟩:=N;simp [execOp,J,Instr.sliceAt,run_underlying ht,Instr.sliceBounds,Instr.sliceBound,dR,M,ac,h0,h1,bE hz,Instr.sureAddr,kW]
      refine⟨_,_,_,B,λE ab=>⟨_,_,w,σ,ad E ab,.inl rfl,λ_ _=>rfl,by rw [G];exact hg,by rw [G];exact hr,?_⟩⟩;have :=VR.lst_of_box (w:=w) (σ:=σ) (O:=Own U σ (S.del k)) hO hh hf (λc y hy=>by obtain⟨v,q1,q2,q3⟩:=D c y hy;exact⟨v,q1,q2,(aY q3 (List.all_eq_true.1 hf y (zC hy))).mono (cG.refl _ _) (λb _ hb=>by rw [<-j] at hb;exact qH hb) λ_ _=>rfl⟩) h.toNat len (by omega) (by omega);simpa using this
   ·cases B
  ·cases B
 ·cases B
theorem bP.of_keep {σ:Sg} {S:aD} {w w':World} {n:Nat} (h:cG (λ_=>False) w w'):bP σ S w n σ S w' n:= ⟨h.wider λ_ h=>h.elim,λ_ _ h=>h,λ_ _=>rfl,zW _⟩
theorem aV.of_keep {S:aD} {n:Nat} (f:aV U σ S w n) {w':World} (h:cG (λ_=>False) w w'):aV U σ S w' n:= f.step (bP.of_keep h) f.fresh f.inj λk o j=>.inl ⟨j,λb es cap z=>h.block b (f.size ⟨k,o,es,cap,j,z⟩) id⟩
theorem bLF {s d el:TypeId} {x:Operand} {a:A} (T:P.underlying s=some .string)(N:P.underlying d=some (.slice el))(D:P.underlying el=some (.int .u8))(B:VR (Own U σ S) w σ (e a) (ρ x))(J:aV U σ S w n)(f:S.get m=none/\σ m=none)
 (j:pO S m (.s2b a) e K):rL P U σ S w n m ρ (.convert s d x) K:=by
 simp only [pO] at j;split at j
 ·rename_i str H;rw [H] at B;generalize F:ρ x=Y at B;cases B
  obtain⟨E,j⟩:=j;obtain⟨z,C⟩:=oY w str.size 0 el E;have W:str.data.size=str.size:=rfl;have G:str.data.toList.length=str.size:=by rw [Array.length_toList];rfl
  obtain⟨g,r⟩:=J.new_bytes f (w':=w.drew.alloc (.cells (bytesRow str (grownCap w str.size 0 el)) el ((bytesRow str (grownCap w str.size 0 el)).size,(bytesRow str (grownCap w str.size 0 el)).size+1))) (arr:=bytesRow str (grownCap w str.size 0 el)) (ty:=el) (l:=str.data.toList) (cap:=grownCap w str.size 0 el) rfl rfl rfl rfl ⟨by rw [G];exact z,C⟩
   (by unfold bytesRow;rw [yQ,Array.size_map,Array.size_replicate,W];omega) (λi x B=>by obtain⟨O,M⟩:=List.getElem?_eq_some_iff.1 B;rw [bytesRow_at str _ i (by simpa using O),<-M];simp)
  refine⟨_,_,_,j,λo' R=>⟨_,.slice (some ⟨w.heap.size,0,none⟩) str.size (grownCap w str.size 0 el),_,_,?_,.inl rfl,(by intro k Q;first |rfl |exact Sg.put_other _ _ Q),g,r,VR.row _ _ _ _ _ _ _ _ z⟩⟩
  simp only [execOp,R,F,Sem.run_bind,run_bytes_of_string w s d el str T N D,Result.andThen_ok];rfl
 ·cases j
theorem aV.reset(D:aV U σ S w n) {k:Nat} {o:Obj} (J:S.get k=some o):bP σ S w n σ (S.set k o) w n/\aV U σ (S.set k o) w n:=by
 have f:∀j,(S.set k o).get j=S.get j:=λj=>by
  rw [aD.get_set];split
  ·rename_i h;rw [h,J]
  ·rfl
 have B:∀c,fD σ (S.set k o) c->fD σ S c:=λc ⟨j,p,e1,C,z,E⟩=>⟨j,p,e1,C,by rw [<-f];exact z,E⟩;have g:bP σ S w n σ (S.set k o) w n:=⟨cG.refl _ _,λb _ h=>B b h,λ_ _=>rfl,zW _⟩
 exact⟨g,D.step g (λj z=>by rw [f];exact D.fresh j z) (λj M p N b e1 C G F H h2=>D.inj j M p N b e1 C G F (by rw [<-f];exact H) (by rw [<-f];exact h2))
  λj p z=>.inl ⟨by rw [<-f];exact z,λ_ _ _ _=>rfl⟩⟩
theorem VR.sl_inv {O:Nat->Prop} {k off len:Nat} {v:Value} (h:VR O w σ (.sl k off len) v):
 (∃b es cap a,v=.slice a len (cap-off)/\σ k=some (some b,es,cap)/\off+len<=cap/\(off<cap->a=some ⟨b,off*es,none⟩))\/(∃es a,v=.slice a 0 0/\σ k=some (none,es,0)/\off=0/\len=0):=by
 cases h with
 |sl h f j=>exact .inl ⟨_,_,_,_,rfl,h,f,j⟩
 |sl0 h=>exact .inr ⟨_,_,rfl,h,rfl,rfl⟩
theorem aDS(w:World):aA3 w w.drew:=λ_ _=>rfl
theorem VR.nowhere(σ:Sg)(O:Nat->Prop)(w:World)(m es:Nat)(a:Option Addr):VR O w (σ.put m (none,es,0)) (.sl m 0 0) (.slice a 0 0):=.sl0 (Sg.put_same σ m (none,es,0))
theorem aGX(Z:aV U σ S w n)(j:S.get m=none/\σ m=none) {E:aD} (J:∀k o,E.get k=some o->S.get k=some o) {es cap:Nat} {xs ys:List (List V)} (C:∀x∈xs,x.length=es)(D:∀x∈ys,x.length=es)
 {olds news:List Value} (Y:olds.length=xs.length*es) (hn:news.length=ys.length*es) (O:oU (Own U σ S) w (λ_=>none) xs.flatten olds.toArray) (N:oU (Own U σ S) w (λ_=>none) ys.flatten news.toArray)
 {F:Array Value} (T:F.size=es) (W:xs.length+ys.length<=cap/\cap<=9223372036854775807) (el:TypeId):
 bP σ S w n (σ.put m (some w.heap.size,es,cap)) (E.set m (.row es (xs++ys))) (w.drew.alloc (.cells ((olds++news).toArray++Builtin.zeroCells F (cap- (xs.length+ys.length))) el)) (max n (m+1))/\
 aV U (σ.put m (some w.heap.size,es,cap)) (E.set m (.row es (xs++ys))) (w.drew.alloc (.cells ((olds++news).toArray++Builtin.zeroCells F (cap- (xs.length+ys.length))) el)) (max n (m+1)):=by
 have f:∀x∈xs++ys,x.length=es:=λx Q=>by exact(List.mem_append.1 Q).elim (C x) (D x)
 refine Z.new_row j (nR.drewAlloc w _ el) E J f (by simp;omega) ?_ λi x c y Q hy=>?_
 ·have hz:(Builtin.zeroCells F (cap- (xs.length+ys.length))).size=(cap- (xs.length+ys.length))*es:=by simp [Builtin.zeroCells,T]
  simp only [yQ,hz,zR,yP,Y,hn,<-zL];exact zF _ (by omega)
 ·have z:=gP f i x c y Q hy;rw [List.flatten_append,zI] at z;have R:=fA C;rw [Array.getElem?_append,zR,yP];split at z
  ·rename_i B;obtain⟨u,G,h2,H⟩:=O _ y z;refine⟨u,?_,h2,H⟩;rw [if_pos (by omega),zK,List.getElem?_append_left (by omega)];simpa using G
  ·rename_i M;rw [R] at z M;obtain⟨u,G,h2,H⟩:=N _ y z;refine⟨u,?_,h2,H⟩;obtain⟨B,-⟩:=List.getElem?_eq_some_iff.1 z;rw [fA D] at B;rw [if_pos (by omega),zK,List.getElem?_append_right (by omega),Y];simpa using G
theorem bLB {t u el a8:TypeId} {i:TypeInfo} {z:List V} {x y:Operand} {a b:A} (ht:P.underlying t=some (.slice el))(hu:P.underlying u=some (.slice a8))(hi:P.info? el=some i)(hz:zeroOf P el=some z)(hc:z.length=i.size/\0<i.size)
 (E:VR (Own U σ S) w σ (e a) (ρ x)) (hy:VR (Own U σ S) w σ (e b) (ρ y)) (hR:aV U σ S w n) (D:S.get m=none/\σ m=none) (H:pO S m (.app i.size i.bytes a b) e K) (o:Op) (ho:o=.call { callee:=.builtin .append,args:= #[x,y],argTypes:= #[t,u] }):rL P U σ S w n m ρ o K:=by
 replace E:=oQ E;obtain⟨bq,b1⟩:=hc;obtain⟨i',zv,aw,ak,bw⟩:=iY hz;rw [hi] at aw;obtain rfl:=zsi aw;have a7:zv.cells.size=i.size:=by have :=(aMO bw).1;simpa [bq] using this.symm
 have M:∀(o':Oper),o'.op=o->∀v w',(Builtin.append_ #[t,u] o'.type #[ρ x,ρ y]).run P w=.ok v w'->(execOp ρ o').run P w=.ok (.value v) w':=by intro o' N v w' h;simp [execOp,N,ho,resolve,invoke,builtin,h]
 simp only [pO] at H;split at H
 ·rename_i a9 az C bn;obtain⟨bs,a1,H⟩:=H;obtain⟨Q,⟨b0,bz,bx⟩,a3⟩:=aMJ hu hR hy bn bs a1;obtain⟨f,ai,a2,ao,bk⟩:=a3 C.length (zW _);rw [yU] at ao;have al:Src P i.size u (ρ y) C.length f w:= ⟨.inl ⟨a8,hu⟩,λw'=>by rw [bx];rfl,bk w (aA3.refl w),bk w.drew (aDS w),ai,a2⟩;have au:C.length=0->Src P i.size u (ρ y) 0 [] w:=λh=>by have :f=[]:=List.length_eq_zero_iff.1 (by rw [ai,h];simp);rw [this,h] at al;exact al
  have R:∀(aa:Option Addr) (S0:aD),(∀k o,S0.get k=some o->S.get k=some o)->ρ x=.slice aa 0 0->(C.length:Int)<=9223372036854775807->C.length*i.bytes<=140737488355328->
   K (.sl m 0 C.length) (S0.set m (.row i.size C)) (m+1)->rL P U σ S w n m ρ o K:=by
   intro aa S0 bd bf av ag H;refine⟨_,_,_,H,λo' N=>?_⟩
   by_cases h0:C.length=0
   ·obtain rfl:C=[]:=List.length_eq_zero_iff.1 h0;obtain⟨g,r⟩:=hR.new_nil D i.size S0 bd;refine⟨_,.slice aa 0 0,w,_,M o' N _ _ ?_,.inl rfl,(by intro k hk;first |rfl |exact Sg.put_other _ _ hk),g,r,VR.nowhere _ _ _ _ _ _⟩
    rw [bf];exact run_append_nothing w t u _ el i ht hi aa 0 0 (zW _) _ (au h0)
   ·obtain⟨g,r⟩:=aGX hR D bd (es:=i.size) (cap:=grownCap w (0+C.length) 0 el) (xs:= []) (ys:=C) (by simp) Q (olds:= []) (news:=f) (by simp) ai (λj y hy=>by simp at hy) ao a7 (by
     have :=oY w (0+C.length) 0 el (by omega);simpa using this) el
    refine⟨_,.slice (some ⟨w.heap.size,0,none⟩) (0+C.length) (grownCap w (0+C.length) 0 el),_,_,M o' N _ _ ?_,.inl rfl,(by intro k hk;first |rfl |exact Sg.put_other _ _ hk),g,r,?_⟩
    ·rw [bf]
     have :=run_append_grow_src (P:=P) w t u o'.type el i zv ht hi ak aa 0 0 [] (sR _ _ _ _) (ρ y) C.length f al (by omega) (by omega) (by
      have :=growslice_fits (need:=0+C.length) (old:=0) (bytes:=i.bytes) (by omega) (by simpa using ag);exact this)
     simpa using this
    ·rw [yR];exact VR.row _ _ _ _ _ _ _ _ (kL _ _ _ _)
  split at H
  ·rename_i ba am;rw [am] at E;generalize G:ρ x=va at E
   cases E with
   | @lst _ _ _ _ ad cap bb oo cv ab hl W bv b6 b8 b7=> have a0:cap=0:=bv rfl;subst a0;exact R ad S (λ_ _ h=>h) G H.1 H.2.1 H.2.2
  ·rename_i k ar len am;rw [am] at E;split at H
   ·rename_i ba xs F;obtain⟨rfl,rfl,rfl,av,ag,H⟩:=H;have Y:=hR.obj k _ F
    have ac:∀k' o,(S.del k).get k'=some o->S.get k'=some o:=λk' o h=>by
     rw [aD.get_del] at h;split at h
     ·cases h
     ·exact h
    rcases E.sl_inv with ⟨bl,bc,cap,ad,G,hs,bt,ab⟩| ⟨bc,ad,G,hs,-,bi⟩
    ·rw [hs] at Y;obtain⟨hl,rfl,W,af,ty,hh,a5,J⟩:=Y;simp only [zN,Nat.zero_mul] at G ab;refine⟨_,_,_,H,λo' N=>?_⟩
     by_cases Z:xs.length+C.length<=cap
     ·by_cases h0:C.length=0
      ·obtain rfl:C=[]:=List.length_eq_zero_iff.1 h0;obtain⟨g,r⟩:=hR.moveC cap D (o:=.row i.size (xs++ [])) F hs (w':=w) rfl rfl rfl rfl (λ_ _=>rfl) (λg=>⟨by simpa using hl,rfl,by simpa using W,af,ty,hh,a5,λi x c y E hy=>by obtain⟨v,q1,q2,q3⟩:=J i x c y (by simpa using E) hy;exact⟨v,q1,q2,q3.mono (g.keepU U) (g.ownU U) λ_ _=>rfl⟩⟩);refine⟨_,.slice ad xs.length cap,w,_,M o' N _ _ ?_,.inl rfl,(by intro k hk;first |rfl |exact Sg.put_other _ _ hk),g,r,?_⟩
       ·rw [G];exact run_append_nothing w t u _ el i ht hi ad xs.length cap W.1 _ (au h0)
       ·have :=VR.sl (O:=Own U (σ.put m (some bl,i.size,cap)) ((S.del k).set m (.row i.size (xs++ [])))) (w:=w) (off:=0) (len:=xs.length+([]:List (List V)).length) (a:=ad) (Sg.put_same σ m (some bl,i.size,cap)) (by simpa using W.1) (λh=>by rw [ab h];simp);simpa using this
      ·have br:0<cap:=by omega
       obtain rfl:=ab br;have bj:(xs.length+C.length)*i.size<=cap*i.size:=zF _ Z;rw [zL] at bj;obtain⟨T,bo,bp,bh⟩:=eW (P:=P) (w:=w) (g:=bl) (o:=xs.length*i.size) f.toArray hh (vR _ _) (by simp [ai];omega) (by simpa using a2);have ah:∀j,j<f.length->xs.length*i.size+j<af.size:=λj hj=>by omega
       have ay:=run_append_room_src (P:=P) w t u o'.type el i ht hi bl 0 xs.length cap (ρ y) C.length f al Z (λj hj=>by have :=ah j hj;simp [World.cell?,hh];omega) (λj hj=>by have :=vR ty.2 af.size (xs.length*i.size+j) (ah j hj);simp [World.frozen?,hh];omega)
       have bm:w.setCells bl (0+xs.length*i.size) f=w.setRow bl T:=by have :=run_storeCells_cells (P:=P) bl (xs.length*i.size) f 0 w (λj hj=>by have :=ah j hj;simp [World.cell?,hh];omega) (λj hj=>by have :=vR ty.2 af.size (xs.length*i.size+j) (ah j hj);simp [World.frozen?,hh];omega) a2;rw [show(f.toArray).toList=f by simp] at bo;rw [bo] at this;simp only [Result.ok.injEq,true_and,zU] at this;rw [yR];exact this.symm
       rw [bm] at ay
       obtain⟨g,r⟩:=hR.moveC cap D (o:=.row i.size (xs++C)) F hs (w':=w.setRow bl T) rfl rfl rfl (by simp) (λj hj=>setRow_other w bl j T hj) (λg=>by
        have ax:∀x∈xs++C,x.length=i.size:=λx E=>by exact(List.mem_append.1 E).elim (hl x) (Q x)
        refine⟨ax,rfl,⟨by simpa using Z,W.2⟩,T,ty,by rw [bp];exact setRow_heap w bl af T ty.1 _ hh,by omega,λi' x c y E hy=>?_⟩;have g0:∀ {x v},VR (Own U σ S) w (λ_=>none) x v->VR (Own U (σ.put m (some bl,i.size,cap)) ((S.del k).set m (.row i.size (xs++C)))) (w.setRow bl T) (λ_=>none) x v:=λh=>h.mono (g.keepU U) (g.ownU U) λ_ _=>rfl;rw [bh];have b2:c<i.size:=by obtain⟨h',-⟩:=List.getElem?_eq_some_iff.1 hy;rw [ax x (zC E)] at h';exact h'
        rw [zI] at E;split at E
        ·rename_i aw;have :=zF i.size (show i'+1<=xs.length by omega);rw [zL,zZ] at this;rw [if_neg (by omega)];obtain⟨v,q1,q2,q3⟩:=J i' x c y E hy;exact⟨v,q1,q2,g0 q3⟩
        ·rename_i aw;obtain⟨b4,-⟩:=List.getElem?_eq_some_iff.1 E;have e1:i'*i.size=xs.length*i.size+(i'-xs.length)*i.size:=by rw [<-zL];congr 1;omega
         have :=zF i.size (show(i'-xs.length)+1<=C.length by omega);rw [zL,zZ] at this;rw [if_pos (by simp [ai];omega),show i'*i.size+c-xs.length*i.size=(i'-xs.length)*i.size+c by omega];obtain⟨v,q1,q2,q3⟩:=ao _ _ (gP Q _ x c y E hy);exact⟨v,q1,q2,g0 q3⟩)
       refine⟨_,.slice (some ⟨bl,0,none⟩) (xs.length+C.length) cap,_,_,M o' N _ _ ?_,.inl rfl,(by intro k hk;first |rfl |exact Sg.put_other _ _ hk),g,r,VR.row _ _ _ _ _ _ _ _ Z⟩
       rw [G];exact ay
     ·have a4:=aMJ (x:=.sl k 0 xs.length) (v:=.slice ad xs.length cap) (es:=i.size) (tx:=t) ht hR (by
       have :=VR.sl (O:=Own U σ S) (w:=w) (off:=0) (len:=xs.length) (a:=ad) hs (by omega) (λh=>by rw [ab h];simp);simpa using this) (es':=i.size) (ys:=xs) (len':=xs.length) (by simp [aPR,aUK,unk,F]) (.inl rfl) rfl
      obtain⟨-,-,ae⟩:=a4;obtain⟨B,ap,bu,aj,aq⟩:=ae xs.length (zW _);rw [yU] at aj;obtain⟨g,r⟩:=aGX hR D ac (es:=i.size) (cap:=grownCap w (xs.length+C.length) cap el) (xs:=xs) (ys:=C) hl Q (olds:=B) (news:=f) ap ai aj ao a7 (oY _ _ _ _ (by omega)) el
      refine⟨_,.slice (some ⟨w.heap.size,0,none⟩) (xs.length+C.length) (grownCap w (xs.length+C.length) cap el),_,_,M o' N _ _ ?_,.inl rfl,(by intro k hk;first |rfl |exact Sg.put_other _ _ hk),g,r,VR.row _ _ _ _ _ _ _ _ (kL _ _ _ _)⟩
      rw [G];exact run_append_grow_src (P:=P) w t u o'.type el i zv ht hi ak ad xs.length cap B (aq w.drew (aDS w)) (ρ y) C.length f al (by omega) (by omega) (growslice_fits (by omega) ag)
    ·rw [hs] at Y;obtain⟨hl,rfl,-,rfl⟩:=Y;exact R _ (S.del k) ac G (by simpa using av) (by simpa using ag) (by simpa using H)
   ·cases H
  ·rename_i k ar len am;rw [am] at E;split at H
   ·rename_i ba xs F;obtain⟨rfl,rfl,b5,av,ag,H⟩:=H;have Y:=hR.obj k _ F
    have ac:∀k' o,(S.del k).get k'=some o->S.get k'=some o:=λk' o h=>by
     rw [aD.get_del] at h;split at h
     ·cases h
     ·exact h
    generalize G:ρ x=va at E
    cases E with
    | @slx _ _ _ _ bl bc cap ad hs bt ab=>
      rw [hs] at Y;obtain⟨hl,rfl,W,af,ty,hh,a5,J⟩:=Y;have ah:∀x∈xs.take len,x.length=i.size:=λx E=>hl x (zJ E);have a6:(xs.take len).length=len:=by simp;omega
      refine⟨_,_,_,H,λo' N=>?_⟩
      by_cases h0:C.length=0
      ·obtain rfl:C=[]:=List.length_eq_zero_iff.1 h0
       obtain⟨g,r⟩:=hR.moveC len D (o:=.row i.size (xs.take len++ [])) F hs (w':=w) rfl rfl rfl rfl (λ_ _=>rfl) (λg=>⟨by simpa using ah,rfl,by simp;omega,af,ty,hh,Nat.le_trans (zF _ (by omega)) a5,λi' x c y E hy=>by
        rw [zQ,zO] at E;split at E
        ·obtain⟨v,q1,q2,q3⟩:=J i' x c y E hy;exact⟨v,q1,q2,q3.mono (g.keepU U) (g.ownU U) λ_ _=>rfl⟩
        ·cases E⟩)
       refine⟨_,.slice ad len len,w,_,M o' N _ _ ?_,.inl rfl,(by intro k hk;first |rfl |exact Sg.put_other _ _ hk),g,r,?_⟩
       ·rw [G];exact run_append_nothing w t u _ el i ht hi ad len len (zW _) _ (au h0)
       ·have :=VR.sl (O:=Own U (σ.put m (some bl,i.size,len)) ((S.del k).set m (.row i.size (xs.take len++ [])))) (w:=w) (off:=0) (len:=len+([]:List (List V)).length) (a:=ad) (Sg.put_same σ m (some bl,i.size,len)) (by simp) (λh=>by rw [ab h]);simpa using this
      ·have ae:∃B:List Value,B.length=len*i.size/\oU (Own U σ S) w (λ_=>none) (xs.take len).flatten B.toArray/\∀w',aA3 w w'->(Builtin.firstCells i.size len (.slice ad len len)).run P w'=.ok B.toArray w':=by
        by_cases bi:len=0
        ·subst bi;exact⟨[],by simp,λj y hy=>by simp at hy,λw' _=>sR _ _ _ _⟩
        ·obtain rfl:=ab (by omega)
         have a4:=aMJ (x:=.sl k 0 len) (v:=.slice (some ⟨bl,0*i.size,none⟩) len cap) (es:=i.size) (tx:=t) ht hR (by
          have :=VR.sl (O:=Own U σ S) (w:=w) (off:=0) (len:=len) (a:=some ⟨bl,0*i.size,none⟩) hs (by omega) (λh=>rfl);simpa using this) (es':=i.size) (ys:=(xs.drop 0).take len) (len':=len) (by simp [aPR,aUK,unk,F]) (.inl rfl) (by simp;omega)
         obtain⟨-,-,ae⟩:=a4;have b3:((xs.drop 0).take len).length=len:=by simp;omega
         obtain⟨B,ap,bu,aj,aq⟩:=ae len (by omega);rw [List.take_take,Nat.min_self,yJ] at aj;exact⟨B,ap,aj,λw' hw=>aq w' hw⟩
       obtain⟨B,ap,aj,aq⟩:=ae;obtain⟨g,r⟩:=aGX hR D ac (es:=i.size) (cap:=grownCap w (len+C.length) len el) (xs:=xs.take len) (ys:=C) ah Q (olds:=B) (news:=f) (by rw [a6];exact ap) ai aj ao a7 (by rw [a6];exact oY _ _ _ _ (by omega)) el;rw [a6] at g r
       refine⟨_,.slice (some ⟨w.heap.size,0,none⟩) (len+C.length) (grownCap w (len+C.length) len el),_,_,M o' N _ _ ?_,.inl rfl,(by intro k hk;first |rfl |exact Sg.put_other _ _ hk),g,r,VR.row _ _ _ _ _ _ _ _ (kL _ _ _ _)⟩
       rw [G];exact run_append_grow_src (P:=P) w t u o'.type el i zv ht hi ak ad len len B (aq w.drew (aDS w)) (ρ y) C.length f al (by omega) (by omega) (growslice_fits (by omega) ag)
    |slx0 hs=> rw [hs] at Y;obtain⟨hl,rfl,-,rfl⟩:=Y;exact R _ (S.del k) ac G (by simpa using av) (by simpa using ag) (by simpa using H)
   ·cases H
  ·cases H
 ·cases H
theorem bLE {t u el ao:TypeId} {es:Nat} {x y:Operand} {a b:A} (ht:P.underlying t=some (.slice el))(hu:P.underlying u=some (.slice ao))(hz:bG P el=some es)(a4:0<es)
 (C:VR (Own U σ S) w σ (e a) (ρ x)) (W:VR (Own U σ S) w σ (e b) (ρ y)) (hR:aV U σ S w n) (bc:m<=n) (O:pO S m (.cpy es a b) e K) (o:Op) (ho:o=.call { callee:=.builtin .copy,args:= #[x,y],argTypes:= #[t,u] }):rL P U σ S w n m ρ o K:=by
 have M:max n m=n:=by omega
 replace C:=oQ C;simp only [pO] at O;split at O
 ·rename_i a7 a5 B k f len ak au;split at O
  ·rename_i a8 xs H;obtain⟨ar,ab,rfl,a3,O⟩:=O;obtain⟨T,⟨a6,a2,am⟩,ae⟩:=aMJ hu hR W ak ar ab;obtain⟨J,Y,aw,ax,ay⟩:=ae (min B.length len) (by omega);have Z:=hR.obj k _ H;rw [au] at C;generalize a1:ρ x=va at C
   have R:∀(G:Option Addr) (cap:Nat),va=.slice G len cap->∀w',(match G with |some a=>(storeCells a J).run P w |none=>.ok () w)=.ok () w'->∀(o':Oper),o'.op=o->(execOp ρ o').run P w=.ok (.value (.int .i64 (min B.length len:Nat))) w':=by
    intro G cap hv w' N o' F;have hf:=ay w (aA3.refl w);rw [am] at hf;have ai:yN B.length len=min B.length len:=rfl;simp only [execOp,F,ho,resolve,invoke,builtin,Builtin.copy_,yF,yO,yS,a1,hv,am,Sem.run_bind,Sem.run_pure,pure_bind,Result.andThen_ok,zK,zG,zH,run_underlying ht,Builtin.lenOf,bE hz,ai,hf]
    cases G with
    |none=>simp only at N;obtain⟨-,rfl⟩:=Result.ok.inj N;rfl
    |some a=>simp only at N;simp [N,goInt]
   cases C with
   | @sl _ _ _ _ bl z cap ad hs ba ap=>
     rw [hs] at Z;obtain⟨hl,rfl,ag,af,ty,hh,az,D⟩:=Z
     by_cases aq:f<cap
     ·obtain rfl:=ap aq;have aj:(f+min B.length len)*z<=cap*z:=zF _ (by omega);rw [zL] at aj;obtain⟨E,N,al,ah⟩:=eW (P:=P) (w:=w) (g:=bl) (o:=f*z) J.toArray hh (vR _ _) (by simp [Y];omega) (by simpa using aw)
      obtain⟨g,r⟩:=hR.write (o:=.row z (xs.take f++B.take (min B.length len)++xs.drop (f+min B.length len))) H hs (w':=w.setRow bl E) rfl rfl rfl (by simp) (λj hj=>setRow_other w bl j E hj) (λg=>by
       have aa:∀x∈xs.take f++B.take (min B.length len)++xs.drop (f+min B.length len),x.length=z:=λx C=>by
        rcases List.mem_append.1 C with h |h
        ·rcases List.mem_append.1 h with h |h
         ·exact hl x (zJ h)
         ·exact T x (zJ h)
        ·exact hl x (zS h)
       refine⟨aa,rfl,by simp;omega,E,ty,by rw [al];exact setRow_heap w bl af E ty.1 _ hh,by omega,λQ x c y C W=>?_⟩;have g0:∀ {x v},VR (Own U σ S) w (λ_=>none) x v->VR (Own U σ (S.set k (.row z (xs.take f++B.take (min B.length len)++xs.drop (f+min B.length len))))) (w.setRow bl E) (λ_=>none) x v:=λh=>h.mono (g.keepU U) (g.ownU U) λ_ _=>rfl;have a9:c<z:=by obtain⟨h',-⟩:=List.getElem?_eq_some_iff.1 W;rw [aa x (zC C)] at h';exact h'
       have a0:(xs.take f).length=f:=by simp;omega
       rw [ah,zR,Y];rw [yE,zI,a0,zI,zO,zV,yV] at C;have av:min (min B.length len) B.length=min B.length len:=by omega
       rw [av] at C
       by_cases h1:Q<f
       ·rw [if_pos h1,if_pos h1] at C;have :=zF z (show Q+1<=f by omega);rw [zL,zZ] at this;rw [if_neg (by omega)];obtain⟨v,q1,q2,q3⟩:=D Q x c y C W;exact⟨v,q1,q2,g0 q3⟩
       ·rw [if_neg h1] at C;have e1:Q*z=f*z+(Q-f)*z:=by rw [<-zL];congr 1;omega
        by_cases h2:Q-f<min B.length len
        ·rw [if_pos h2] at C;have :=zF z (show(Q-f)+1<=min B.length len by omega);rw [zL,zZ] at this;rw [if_pos (by omega),show Q*z+c-f*z=(Q-f)*z+c by omega];obtain⟨v,q1,q2,q3⟩:=ax _ _ (gP (λy W=>T y (zJ W)) _ x c y C W);exact⟨v,q1,q2,g0 q3⟩
        ·rw [if_neg h2,show f+min B.length len+(Q-f-min B.length len)=Q by omega] at C;have :=zF z (show min B.length len<=Q-f by omega);rw [if_neg (by omega)];obtain⟨v,q1,q2,q3⟩:=D Q x c y C W;exact⟨v,q1,q2,g0 q3⟩)
      exact⟨_,_,_,O,λo' F=>⟨_,_,_,σ,R _ _ rfl _ (by simpa using N) o' F,.inl rfl,(by intro k hk;first |rfl |exact Sg.put_other _ _ hk),by rw [M];exact g,by rw [M];exact r,.int _ _⟩⟩
     ·obtain rfl:len=0:=by omega
      have ac:J=[]:=List.length_eq_zero_iff.1 (by rw [Y];simp);simp only [zX,zU,zP,zQ,zM] at O;obtain⟨g,r⟩:=hR.write (o:=.row z xs) H hs (w':=w) rfl rfl rfl rfl (λ_ _=>rfl) (λg=>⟨hl,rfl,ag,af,ty,hh,az,λi x c y C W=>by obtain⟨v,q1,q2,q3⟩:=D i x c y C W;exact⟨v,q1,q2,q3.mono (g.keepU U) (g.ownU U) λ_ _=>rfl⟩⟩)
      refine⟨_,_,_,O,λo' F=>⟨_,_,w,σ,R _ _ rfl _ ?_ o' F,.inl rfl,(by intro k hk;first |rfl |exact Sg.put_other _ _ hk),by rw [M];exact g,by rw [M];exact r,by simpa using VR.int _ _⟩⟩
      subst ac;cases ad <;> simp [storeCells]
   |sl0 hs=>
    rw [hs] at Z;obtain⟨hl,rfl,-,rfl⟩:=Z;have ac:J=[]:=List.length_eq_zero_iff.1 (by rw [Y];simp);simp only [zX,zU,zP,zQ,zM] at O;obtain⟨g,r⟩:=hR.reset H;refine⟨_,_,_,O,λo' F=>⟨_,_,w,σ,R _ _ rfl _ ?_ o' F,.inl rfl,(by intro k hk;first |rfl |exact Sg.put_other _ _ hk),by rw [M];exact g,by rw [M];exact r,by simpa using VR.int _ _⟩⟩
    subst ac;split <;> simp [storeCells]
  ·cases O
 ·cases O
theorem aIP(hR:aV U σ S w n) {k es cap G:Nat} {xs ys:List (List V)} (F:S.get k=some (.row es xs))(hs:σ k=some (some G,es,cap))(D:∀y∈ys,y.length=es) {news:List Value} (M:news.length=ys.length*es)
 (Y:∀u∈news,u.oneCell'=true) (Z:oU (Own U σ S) w (λ_=>none) ys.flatten news.toArray) {off:Nat} (ae:off+ys.length<=xs.length):
 ∃w',(storeCells ⟨G,off*es,none⟩ news).run P w=.ok () w'/\bP σ S w n σ (S.set k (.row es (xs.take off++ys++xs.drop (off+ys.length)))) w' n/\aV U σ (S.set k (.row es (xs.take off++ys++xs.drop (off+ys.length)))) w' n:=by
 have N:=hR.obj k _ F;rw [hs] at N;obtain⟨hl,-,ac,T,ty,hh,af,z⟩:=N;have J:(off+ys.length)*es<=cap*es:=zF _ (by omega);rw [zL] at J;obtain⟨f,aa,O,H⟩:=eW (P:=P) (w:=w) (g:=G) (o:=off*es) news.toArray hh (vR _ _) (by simp [M];omega) (by simpa using Y)
 obtain⟨g,r⟩:=hR.write (o:=.row es (xs.take off++ys++xs.drop (off+ys.length))) F hs (w':=w.setRow G f) rfl rfl rfl (by simp) (λj hj=>setRow_other w G j f hj) (λg=>by
  have E:∀x∈xs.take off++ys++xs.drop (off+ys.length),x.length=es:=λx C=>by
   rcases List.mem_append.1 C with h |h
   ·rcases List.mem_append.1 h with h |h
    ·exact hl x (zJ h)
    ·exact D x h
   ·exact hl x (zS h)
  refine⟨E,rfl,by simp;omega,f,ty,by rw [O];exact setRow_heap w G T f ty.1 _ hh,by omega,λB x c y C R=>?_⟩;have g0:∀ {x v},VR (Own U σ S) w (λ_=>none) x v->VR (Own U σ (S.set k (.row es (xs.take off++ys++xs.drop (off+ys.length))))) (w.setRow G f) (λ_=>none) x v:=λh=>h.mono (g.keepU U) (g.ownU U) λ_ _=>rfl;have ad:c<es:=by obtain⟨h',-⟩:=List.getElem?_eq_some_iff.1 R;rw [E x (zC C)] at h';exact h'
  have ab:(xs.take off).length=off:=by simp;omega
  rw [H,zR,M];rw [yE,zI,ab,zI,zO,zV] at C
  by_cases W:B<off
  ·rw [if_pos W,if_pos W] at C;have :=zF es (show B+1<=off by omega);rw [zL,zZ] at this;rw [if_neg (by omega)];obtain⟨v,q1,q2,Q⟩:=z B x c y C R;exact⟨v,q1,q2,g0 Q⟩
  ·rw [if_neg W] at C;have e1:B*es=off*es+(B-off)*es:=by rw [<-zL];congr 1;omega
   by_cases h2:B-off<ys.length
   ·rw [if_pos h2] at C;have :=zF es (show(B-off)+1<=ys.length by omega);rw [zL,zZ] at this;rw [if_pos (by omega),show B*es+c-off*es=(B-off)*es+c by omega];obtain⟨v,q1,q2,Q⟩:=Z _ _ (gP D _ x c y C R);exact⟨v,q1,q2,g0 Q⟩
   ·rw [if_neg h2,show off+ys.length+(B-off-ys.length)=B by omega] at C;have :=zF es (show ys.length<=B-off by omega);rw [if_neg (by omega)];obtain⟨v,q1,q2,Q⟩:=z B x c y C R;exact⟨v,q1,q2,g0 Q⟩)
 exact⟨_,by simpa using aa,g,r⟩
theorem bF9 {t u el:TypeId} {x y:Operand} {a b:A} (ht:P.underlying t=some (.slice el))(hu:P.underlying u=some .string)(hz:bG P el=some 1)
 (M:VR (Own U σ S) w σ (e a) (ρ x)) (hy:VR (Own U σ S) w σ (e b) (ρ y)) (hR:aV U σ S w n) (az:m<=n) (H:pO S m (.cpys a b) e K) (o:Op) (ho:o=.call { callee:=.builtin .copy,args:= #[x,y],argTypes:= #[t,u] }):rL P U σ S w n m ρ o K:=by
 have F:max n m=n:=by omega
 replace M:=oQ M;simp only [pO] at H;split at H
 ·rename_i s k D len am al;split at H
  ·rename_i xs C;obtain⟨ap,H⟩:=H;rw [am] at hy;generalize ah:ρ y=vb at hy;cases hy
   rw [al] at M;generalize ag:ρ x=va at M;have Y:=hR.obj k _ C
   let f:List Value:=(s.data.toList.take (min s.size len)).map λb=>Value.int .u8 (b.toNat:Int)
   have Z:s.data.toList.length=s.size:=rfl;have J:f.length=min s.size len:=by simp [f,Z]
   have ac:∀N,(Builtin.firstCells 1 (yN s.size len) (.string s)).run P N=.ok f.toArray N:=by
    intro N;have :yN s.size len=min s.size len:=rfl;rw [this];simp only [Builtin.firstCells,Sem.run_pure]
    congr 1
    apply Array.ext';simp only [yW,f]
    congr 1
    show(s.extract 0 (min s.size len)).data.toList=_;rw [ByteArray.data_extract,yK];simp [List.extract]
   have G:∀(B:Option Addr) (cap:Nat),va=.slice B len cap->∀N,(match B with |some a=>(storeCells a f).run P w |none=>.ok () w)=.ok () N->∀(T:Oper),T.op=o->(execOp ρ T).run P w=.ok (.value (.int .i64 (min s.size len:Nat))) N:=by
    intro B cap hv N E T z;have W:yN s.size len=min s.size len:=rfl;simp only [execOp,z,ho,resolve,invoke,builtin,Builtin.copy_,yF,yO,yS,ag,hv,ah,Sem.run_bind,Sem.run_pure,pure_bind,Result.andThen_ok,zK,zG,zH,run_underlying ht,Builtin.lenOf,bE hz,ac]
    cases B with
    |none=>simp only at E;obtain⟨-,rfl⟩:=Result.ok.inj E;rfl
    |some a=>simp only at E;simp [E,goInt,W]
   have aj:∀q∈(jT s.data.toList).take (min s.size len),q.length=1:=λq hq=>by obtain⟨b,-,rfl⟩:=List.mem_map.1 (zJ hq);rfl
   have af:((jT s.data.toList).take (min s.size len)).length=min s.size len:=by rw [yV,nN,Z];omega
   have ae:((jT s.data.toList).take (min s.size len)).flatten=(s.data.toList.take (min s.size len)).map λb=>V.int .u8 (b.toNat:Int):=by
    unfold jT;rw [<-List.map_take]
    induction s.data.toList.take (min s.size len) with
    |nil=>rfl
    |cons b r ih=>simp [ih]
   cases M with
   | @sl _ _ _ _ bl ai cap ad hs au aa=>
     by_cases ab:D<cap
     ·obtain rfl:=aa ab;have ak:ai=1:=by rw [hs] at Y;exact Y.2.1
      subst ak;obtain⟨N,E,g,r⟩:=aIP (P:=P) hR C hs aj (news:=f) (by rw [J,af];omega) (λu hu=>by obtain⟨b,-,rfl⟩:=List.mem_map.1 hu;rfl) (λj y hy=>by rw [ae,zD,zA] at hy;obtain⟨b,hb,rfl⟩:=hy;exact⟨.int .u8 (b.toNat:Int),by rw [zK];show(List.map _ (List.take _ _))[j]? =_;rw [zD,hb];rfl,rfl,.int _ _⟩) (off:=D) (by rw [af];omega)
      rw [af] at g r;exact⟨_,_,_,H,λT z=>⟨_,_,_,σ,G _ _ rfl _ (by simpa using E) T z,.inl rfl,λ_ _=>rfl,by rw [F];exact g,by rw [F];exact r,.int _ _⟩⟩
     ·obtain rfl:len=0:=by omega
      have O:f=[]:=List.length_eq_zero_iff.1 (by rw [J];simp);simp only [zX,zU,zP,zQ,zM] at H;obtain⟨g,r⟩:=hR.reset C;refine⟨_,_,_,H,λT z=>⟨_,_,w,σ,G _ _ rfl _ ?_ T z,.inl rfl,λ_ _=>rfl,by rw [F];exact g,by rw [F];exact r,by simpa using VR.int _ _⟩⟩;rw [O];cases ad <;> simp [storeCells]
   |sl0 hs=> have O:f=[]:=List.length_eq_zero_iff.1 (by rw [J];simp);simp only [zX,zU,zP,zQ,zM] at H;obtain⟨g,r⟩:=hR.reset C;refine⟨_,_,_,H,λT z=>⟨_,_,w,σ,G _ _ rfl _ ?_ T z,.inl rfl,λ_ _=>rfl,by rw [F];exact g,by rw [F];exact r,by simpa using VR.int _ _⟩⟩;rw [O];split <;> simp [storeCells]
  ·rename_i l C;obtain⟨ap,H⟩:=H;rw [am] at hy;generalize ah:ρ y=vb at hy;cases hy
   rw [al] at M;generalize ag:ρ x=va at M;have Y:=hR.obj k _ C
   let f:List Value:=(s.data.toList.take (min s.size len)).map λb=>Value.int .u8 (b.toNat:Int)
   have Z:s.data.toList.length=s.size:=rfl;have J:f.length=min s.size len:=by simp [f,Z]
   have ac:∀N,(Builtin.firstCells 1 (yN s.size len) (.string s)).run P N=.ok f.toArray N:=by
    intro N;have :yN s.size len=min s.size len:=rfl;rw [this];simp only [Builtin.firstCells,Sem.run_pure]
    congr 1
    apply Array.ext';simp only [yW,f]
    congr 1
    show(s.extract 0 (min s.size len)).data.toList=_;rw [ByteArray.data_extract,yK];simp [List.extract]
   have G:∀(B:Option Addr) (cap:Nat),va=.slice B len cap->∀N,(match B with |some a=>(storeCells a f).run P w |none=>.ok () w)=.ok () N->∀(T:Oper),T.op=o->(execOp ρ T).run P w=.ok (.value (.int .i64 (min s.size len:Nat))) N:=by
    intro B cap hv N E T z;have W:yN s.size len=min s.size len:=rfl;simp only [execOp,z,ho,resolve,invoke,builtin,Builtin.copy_,yF,yO,yS,ag,hv,ah,Sem.run_bind,Sem.run_pure,pure_bind,Result.andThen_ok,zK,zG,zH,run_underlying ht,Builtin.lenOf,bE hz,ac]
    cases B with
    |none=>simp only at E;obtain⟨-,rfl⟩:=Result.ok.inj E;rfl
    |some a=>simp only at E;simp [E,goInt,W]
   cases M with
   | @sl _ _ _ _ bl ai cap ad hs au aa=>
     rw [hs] at Y;obtain⟨b',ax,hl,ay,ar,ty,hh,a0,R⟩:=Y;simp only [zse,Prod.mk.injEq] at hl;obtain⟨rfl,rfl,rfl⟩:=hl
     by_cases ab:D<cap
     ·obtain rfl:=aa ab;obtain⟨Q,E,aq,ao⟩:=eW (P:=P) (w:=w) (g:=bl) (o:=D*1) f.toArray hh (λj hj h'=>Nat.not_le_of_gt hj h'.1) (by simp [J];omega) (λu hu=>by simp only at hu;obtain⟨b,-,rfl⟩:=List.mem_map.1 hu;rfl)
      obtain⟨g,r⟩:=hR.write (o:=.bb (l.take D++s.data.toList.take (min s.size len)++l.drop (D+min s.size len))) C hs (w':=w.setRow bl Q) rfl rfl rfl (by simp) (λj hj=>setRow_other w bl j Q hj) (λg=>by
       refine⟨bl,_,rfl,by simp;omega,Q,ty,by rw [aq];exact setRow_heap w bl ar Q ty _ hh,by omega,λi' x M=>?_⟩;have aw:(l.take D).length=D:=by simp;omega
       have av:(s.data.toList.take (min s.size len)).length=min s.size len:=by simp [Z]
       rw [ao,zR,J];rw [yE,zI,aw,zI,zV,av] at M
       by_cases h1:i'<D
       ·rw [if_pos h1,zO,if_pos h1] at M;rw [if_neg (by omega)];exact R i' x M
       ·rw [if_neg h1] at M
        by_cases h2:i'-D<min s.size len
        ·rw [if_pos h2] at M;rw [if_pos (by omega),Nat.mul_one,zK];show(List.map _ (List.take _ _))[i'-D]? =_;rw [zD,M];rfl
        ·rw [if_neg h2,show D+min s.size len+(i'-D-min s.size len)=i' by omega] at M;rw [if_neg (by omega)];exact R i' x M)
      exact⟨_,_,_,H,λT z=>⟨_,_,_,σ,G _ _ rfl _ (by simpa using E) T z,.inl rfl,λ_ _=>rfl,by rw [F];exact g,by rw [F];exact r,.int _ _⟩⟩
     ·obtain rfl:len=0:=by omega
      have O:f=[]:=List.length_eq_zero_iff.1 (by rw [J];simp);simp only [zX,zU,zP,zQ,zM] at H;obtain⟨g,r⟩:=hR.reset C;refine⟨_,_,_,H,λT z=>⟨_,_,w,σ,G _ _ rfl _ ?_ T z,.inl rfl,λ_ _=>rfl,by rw [F];exact g,by rw [F];exact r,by simpa using VR.int _ _⟩⟩;rw [O];cases ad <;> simp [storeCells]
   |sl0 hs=> have O:f=[]:=List.length_eq_zero_iff.1 (by rw [J];simp);simp only [zX,zU,zP,zQ,zM] at H;obtain⟨g,r⟩:=hR.reset C;refine⟨_,_,_,H,λT z=>⟨_,_,w,σ,G _ _ rfl _ ?_ T z,.inl rfl,λ_ _=>rfl,by rw [F];exact g,by rw [F];exact r,by simpa using VR.int _ _⟩⟩;rw [O];split <;> simp [storeCells]
  ·cases H
 ·cases H
theorem bLD {t el:TypeId} {es:Nat} {z:List V} {x:Operand} {a:A} (ht:P.underlying t=some (.slice el))(ay:bG P el=some es)(hz:zeroOf P el=some z)(hc:z.length=es/\0<es/\z.all cN=true)
 (hx:VR (Own U σ S) w σ (e a) (ρ x)) (hR:aV U σ S w n) (ax:m<=n) (F:pO S m (.clr es z a) e K) (o:Op) (ho:o=.call { callee:=.builtin .clear,args:= #[x],argTypes:= #[t] }):rL P U σ S w n m ρ o K:=by
 have H:max n m=n:=by omega
 obtain⟨T,aj,ak⟩:=hc;obtain⟨i',N,ao,Y,af⟩:=iY hz;have aq:N.cells.size=es:=by have :=(aMO af).1;simpa [T] using this.symm
 replace hx:=oQ hx;simp only [pO] at F;split at F
 ·rename_i k E len al;split at F
  ·rename_i ah xs D;obtain⟨rfl,aa,F⟩:=F;rw [al] at hx;generalize ae:ρ x=va at hx;have ab:=hR.obj k _ D;have J:∀q∈yL len z,q.length=ah:=λq hq=>by rw [(List.mem_replicate.1 hq).2];exact T
   have R:∀(G:Option Addr) (c:Nat),va=.slice G 0 c->∀(o':Oper),o'.op=o->(execOp ρ o').run P w=.ok (.value (.tuple #[])) w:=by intro G c hv o' C;subst hv;cases G <;> simp [execOp,C,ho,resolve,invoke,builtin,Builtin.clear_,ae,run_underlying ht]
   have j:len=0->∀(G:Option Addr) (c:Nat),va=.slice G 0 c->rL P U σ S w n m ρ o K:=by
    intro B G c hv;subst B;have W:xs.take E++yL 0 z++xs.drop (E+0)=xs:=by simp
    rw [W] at F;obtain⟨g,r⟩:=hR.reset D;exact⟨_,_,_,F,λo' C=>⟨_,.tuple #[],w,σ,R G c hv o' C,.inl rfl,λ_ _=>rfl,by rw [H];exact g,by rw [H];exact r,.tup rfl (by simp)⟩⟩
   cases hx with
   | @sl _ _ _ _ bl Q cap G hs aw ai=>
     by_cases B:len=0
     ·exact j B G (cap-E) (by rw [B])
     ·rw [hs] at ab;obtain⟨hl,rfl,ar,av,ty,hh,au,ag⟩:=ab;obtain rfl:=ai (by omega);have M:=aE2 (O:=Own U σ S) (w:=w) (el:=el) af ak T aj len;have f:Builtin.zeroCells N.cells len=(Array.range (len*Q)).map (N.cells[·%N.cells.size]!):=by simp [Builtin.zeroCells,aq]
      have ac:∀u∈(Builtin.zeroCells N.cells len).toList,u.oneCell'=true:=by
       intro u hu;obtain⟨i,hi⟩:=zT hu;have Z:i<len*Q:=by obtain⟨h',-⟩:=List.getElem?_eq_some_iff.1 hi;simpa [f] using h'
       have am:((yL len z).flatten).length=len*Q:=by rw [fA J,yH]
       obtain⟨v,q1,q2,q3⟩:=M i _ (zE (by rw [am];exact Z));rw [<-f] at q1;rw [<-Array.getElem?_toList,hi] at q1;obtain rfl:=zsi q1;exact q2
      obtain⟨w',ap,g,r⟩:=aIP (P:=P) hR D hs J (news:=(Builtin.zeroCells N.cells len).toList) (by simp [f]) ac (by rw [show((Builtin.zeroCells N.cells len).toList).toArray=Builtin.zeroCells N.cells len by simp,f];exact M) (off:=E) (by simpa using aa);simp only [yH] at g r;refine⟨_,_,_,F,λo' C=>⟨_,.tuple #[],w',σ,?_,.inl rfl,λ_ _=>rfl,by rw [H];exact g,by rw [H];exact r,.tup rfl (by simp)⟩⟩
      cases len with
      |zero=>exact absurd rfl B
      |succ len=>simp [execOp,C,ho,resolve,invoke,builtin,Builtin.clear_,ae,run_underlying ht,zeroValue,typeInfo,ao,Y,ap]
   |sl0 hs=>exact j rfl _ _ rfl
  ·cases F
 ·cases F
theorem bBT {o:Op} {i:I} (h:bB1 P o=some i)(H:aV U σ S w n)(j:S.get m=none/\σ m=none)(F:m<=n)(C:∀x a,bK x=some a->VR (Own U σ S) w σ (e a) (ρ x))(G:pO S m i e K):rL P U σ S w n m ρ o K:=by
 unfold bB1 at h;split at h
 ·split at h
  ·rename_i B;split at h
   ·rename_i h2;obtain rfl:=zsi h;exact bBR B h2 H j G
   ·cases h
  ·cases h
 ·simp only [zA] at h;obtain⟨a,B,rfl⟩:=h;exact bLC (C _ _ B) H j G
 ·split at h
  ·rename_i B h2 D;obtain rfl:=zsi h;exact bBU B (C _ _ h2) (C _ _ D) H G F
  ·cases h
 ·split at h
  ·rename_i B;split at h
   ·rename_i h2 D h4;split at h
    ·rename_i h5;obtain rfl:=zsi h;exact aXB B h2 D h4 h5 C H j G
    ·cases h
   ·cases h
  ·cases h
 ·split at h
  ·rename_i B h2 D;split at h
   ·rename_i h4 h5;split at h
    ·rename_i J;obtain rfl:=zsi h;exact bRP B h4 h5 J (C _ _ h2) (C _ _ D) H j G
    ·cases h
   ·cases h
  ·cases h
 ·split at h
  ·split at h
   ·obtain rfl:=zsi h;exact aPZ H j G
   ·obtain rfl:=zsi h;exact aPZ H j G
  ·cases h
 ·split at h
  ·rename_i B h2;split at h
   ·rename_i D;obtain rfl:=zsi h;exact aUX B D (C _ _ h2) trivial H F G
   ·rename_i D;simp only [zA] at h;obtain⟨z,h4,rfl⟩:=h;exact aUX B D (C _ _ h2) (C _ _ h4) H F G
   ·cases h
  ·cases h
 ·split at h
  ·rename_i B h2 D;split at h
   ·rename_i h4;obtain rfl:=zsi h;exact bLF B h2 h4 (C _ _ D) H j G
   ·cases h
  ·cases h
 ·split at h
  ·rename_i B h2 D h4;split at h
   ·rename_i h5;obtain rfl:=zsi h;exact bFA B h5 (C _ _ h2) (C _ _ D) (C _ _ h4) H F G
   ·rename_i h5;split at h
    ·rename_i N;obtain rfl:=zsi h;exact bBS B h5 N (C _ _ h2) (C _ _ D) (C _ _ h4) H F G
    ·cases h
   ·cases h
  ·cases h
 ·rename_i E f;split at h
  ·rename_i x y t u q1 q2;split at h
   ·rename_i B h2 D h4;split at h
    ·rename_i h5 J;split at h
     ·rename_i M;obtain rfl:=zsi h;obtain rfl:E= #[x,y]:=Array.toList_inj.1 q1;obtain rfl:f= #[t,u]:=Array.toList_inj.1 q2;exact bLB B h2 h5 J M (C _ _ D) (C _ _ h4) H j G _ rfl
     ·cases h
    ·cases h
   ·cases h
  ·cases h
 ·rename_i E f;split at h
  ·rename_i x t q1 q2;split at h
   ·rename_i B h2;split at h
    ·rename_i D h4;split at h
     ·rename_i h5;obtain rfl:=zsi h;obtain rfl:E= #[x]:=Array.toList_inj.1 q1;obtain rfl:f= #[t]:=Array.toList_inj.1 q2;exact bLD B D h4 h5 (C _ _ h2) H F G _ rfl
     ·cases h
    ·cases h
   ·cases h
  ·cases h
 ·rename_i E f;split at h
  ·rename_i x y t u q1 q2;split at h
   ·rename_i B h2 D h4;split at h
    ·rename_i h5;split at h
     ·rename_i M;obtain rfl:=zsi h;obtain rfl:E= #[x,y]:=Array.toList_inj.1 q1;obtain rfl:f= #[t,u]:=Array.toList_inj.1 q2;exact bLE B h2 h5 M (C _ _ D) (C _ _ h4) H F G _ rfl
     ·cases h
    ·cases h
   ·rename_i B h2 D h4;split at h
    ·rename_i h5;obtain rfl:=zsi h;obtain rfl:E= #[x,y]:=Array.toList_inj.1 q1;obtain rfl:f= #[t,u]:=Array.toList_inj.1 q2;exact bF9 B h2 h5 (C _ _ D) (C _ _ h4) H F G _ rfl
    ·cases h
   ·cases h
  ·cases h
 ·cases h
end
end Go.Sk
namespace Go.Sk
open Go Go.RowKit
variable [gL]
def aI:Nat->List Obj->aD
 |_,[]=> []
 |k,o::r=>(k,o)::aI (k+1) r
theorem eV:∀(obs:List Obj) (k j:Nat),(aI k obs).get j=if k<=j then obs[j-k]? else none
 | [],k,j=>by simp [aI,aD.get]
 |o::r,k,j=>by
  simp only [aI,aD.get]
  by_cases h:j=k
  ·subst h;simp
  ·rw [if_neg h,eV r (k+1) j]
   by_cases h2:k<=j
   ·rw [if_pos (by omega),if_pos h2,show j-k=(j- (k+1))+1 by omega,zH]
   ·rw [if_neg (by omega),if_neg h2]
def aM(P:Program)(f:FuncId)(ob0:List Obj)(args:List V)(res:V)(ob1:List Obj):Prop:=
 ∀(U:Nat->Prop) (σ:Sg) (w:World) (cargs:Array Value),aV U σ (aI 0 ob0) w ob0.length->cargs.size=args.length->
  (∀(i:Nat) v c,args[i]? =some v->cargs[i]? =some c->VR (Own U σ (aI 0 ob0)) w σ v c)->
  Calls P f cargs w λe w'=>∃cv σ',e=.returned cv/\aV U σ' (aI 0 ob1) w' ob1.length/\VR (Own U σ' (aI 0 ob1)) w' σ' res cv/\
   bP σ (aI 0 ob0) w ob0.length σ' (aI 0 ob1) w' ob1.length
def FnM(P:Program)(f:FuncId)(ob0:List Obj)(args:List V)(res:V)(ob1:List Obj):Prop:=
 ∀(U:Nat->Prop) (σ:Sg) (w:World) (cargs:Array Value),aV U σ (aI 0 ob0) w ob0.length->cargs.size=args.length->
  (∀(i:Nat) v c,args[i]? =some v->cargs[i]? =some c->VR (Own U σ (aI 0 ob0)) w σ v c)->
  Calls P f cargs w λe w'=>∃cv σ',e=.returned cv/\aV U σ' (aI 0 ob1) w' ob1.length/\VR (Own U σ' (aI 0 ob1)) w' σ' res cv/\
   cU (fD σ (aI 0 ob0)) (λ_=>none) w 0 σ' (aI 0 ob1) w' ob1.length
def uO(S:aD):V->V
 | .sl k off len=>match S.get k with
   |some (.row es xs)=>.lst es false ((xs.drop off).take len)
   |_=>.any
 | .slk k off len c=>match S.get k with
   |some (.row es xs)=>.lst es (Nat.beq c len) ((xs.drop off).take len)
   |_=>.any
 | .ptr k _ c=>match S.get k with
   |some (.box cs)=>.rp cs.length cs c
   |_=>.any
 | .int k n=>.int k n
 | .bool b=>.bool b
 | .str s=>.str s
 | .nil=>.nil
 | .rp es cs c=>.rp es cs c
 | .lst es t xs=>.lst es t xs
 | .val v=>.val v
 |_=>.any
def pur(S:aD):V->V
 | .agg cs=>.agg (cs.map (uO S))
 | .fn f cs=>.fn f (cs.map (uO S))
 |v=>uO S v
def kH(S:aD):V->Prop
 | .sl k off len=>match S.get k with
   |some (.row _ xs)=>off+len<=xs.length
   |_=>True
 | .slk k off len _=>match S.get k with
   |some (.row _ xs)=>off+len<=xs.length
   |_=>True
 | .ptr k i _=>match S.get k with
   |some (.box cs)=>i=0/\cs.all cN=true
   |_=>True
 |_=>True
def pH(S:aD):V->Prop
 | .agg cs=>∀c∈cs,kH S c
 | .fn _ cs=>∀c∈cs,kH S c
 |v=>kH S v
def aAP:V->Bool
 | .sl _ _ _=>false
 | .slk _ _ _ _=>false
 | .ptr _ _ _=>false
 |_=>true
def aJT:V->Bool
 | .agg cs=>cs.all aAP
 | .fn _ cs=>cs.all aAP
 |v=>aAP v
def aMH:V->Bool
 | .int _ _=>true | .bool _=>true | .str _=>true | .nil=>true | .val _=>true | .any=>true
 |_=>false
def aMI:V->Bool
 | .agg cs=>cs.all aMH
 |v=>aMH v
def aDU:V->Bool
 | .tup vs=>vs.all aMI
 |v=>aMI v
theorem aKG {O O':Nat->Prop} {w w':World} {σ σ':Sg} {x:V} {v:Value} (h:aMH x=true)(hv:VR O w σ x v):VR O' w' σ' x v:=by
 cases hv <;> first |exact .any _ |exact .int _ _ |exact .bool _ |exact .str _ |exact .nil |exact .val _ | (simp [aMH] at h)
theorem aKH {O O':Nat->Prop} {w w':World} {σ σ':Sg} {x:V} {v:Value} (h:aMI x=true)(hv:VR O w σ x v):VR O' w' σ' x v:=by
 by_cases j:∃f,x=.agg f
 ·obtain⟨f,rfl⟩:=j
  cases hv with
  |agg C B=>exact .agg C λi y u z D=>aKG (List.all_eq_true.1 h y (zC z)) (B i y u z D)
 ·refine aKG ?_ hv;unfold aMI at h;split at h
  ·exact absurd ⟨_,rfl⟩ j
  ·exact h
theorem aX0 {O O':Nat->Prop} {w w':World} {σ σ':Sg} {x:V} {v:Value} (h:aDU x=true)(hv:VR O w σ x v):VR O' w' σ' x v:=by
 by_cases j:∃f,x=.tup f
 ·obtain⟨f,rfl⟩:=j
  cases hv with
  |tup C B=>exact .tup C λi y u z D=>aKH (List.all_eq_true.1 h y (zC z)) (B i y u z D)
 ·refine aKH ?_ hv;unfold aDU at h;split at h
  ·exact absurd ⟨_,rfl⟩ j
  ·exact h
section
variable {P:Program} {U:Nat->Prop} {σ:Sg} {S:aD} {w:World} {n:Nat}
theorem aMD(hR:aV U σ S w n) {O:Nat->Prop} (R:∀b,O b->Own U σ S b) {k off len es:Nat} {xs:List (List V)} {v:Value} (hv:VR (Own U σ S) w σ (.sl k off len) v)(ho:S.get k=some (.row es xs))(ae:off+len<=xs.length)
 (hO:∀b es cap,σ k=some (some b,es,cap)->¬O b):VR O w (λ_=>none) (.lst es false ((xs.drop off).take len)) v:=by
 have sub:∀ {x v},VR (Own U σ S) w (λ_=>none) x v->VR O w (λ_=>none) x v:=λh=>h.mono (cG.refl _ _) (λb _ h=>R b h) λ_ _=>rfl;have H:=hR.obj k _ ho;rcases hv.sl_inv with ⟨b,f,cap,ad,rfl,Y,ab,T⟩| ⟨f,ad,rfl,Y,rfl,rfl⟩
 ·have Q:=hO _ _ _ Y;rw [Y] at H;obtain⟨W,rfl,aa,ac,ty,hh,ag,C⟩:=H;have j:((xs.drop off).take len).length=len:=by simp;omega
  have hb:b<w.heap.size:=(Array.getElem?_eq_some_iff.1 hh).1
  have B:∀i c,i<len->c<f->∃u,w.cell? ⟨b,off*f+i*f+c,none⟩=some u/\u.oneCell'=true/\∀(z:List V) (y:V),((xs.drop off).take len)[i]? =some z->z[c]? =some y->VR O w (λ_=>none) y u:=by
   intro i c F G;have E:off+i<xs.length:=by omega
   have Z:(xs[off+i]).length=f:=W _ (yX E);obtain⟨u,q1,q2,q3⟩:=C (off+i) xs[off+i] c _ (zE E) (zE (by omega));refine⟨u,?_,q2,λz y D M=>?_⟩
   ·rw [zL] at q1;simp [World.cell?,hh,q1]
   ·rw [zO,if_pos F,zV,zE E] at D;obtain rfl:=zsi D;rw [zE (by omega)] at M;obtain rfl:=zsi M;exact sub q3
  have N:VR O w (λ_=>none) (.lst f false ((xs.drop off).take len)) (.slice ad ((xs.drop off).take len).length (cap-off)):=by
   refine .lst b (off*f) (λi c=>(w.cell? ⟨b,off*f+i*f+c,none⟩).getD undef) (λaf=>?_) (λz D=>W z (zS (zJ D))) (by rw [j];omega) (by simp) (λi c F G=>?_) (λi c F G=>?_) λi z c y D M=>?_
   ·have J:=List.length_pos_iff.2 af;rw [j] at J;exact⟨T (by omega),Q,hb⟩
   ·obtain⟨u,q1,-⟩:=B i c (by omega) G;rw [q1];rfl
   ·obtain⟨u,q1,q2,-⟩:=B i c (by omega) G;rw [q1];exact q2
   ·obtain⟨F,-⟩:=List.getElem?_eq_some_iff.1 D;obtain⟨G,-⟩:=List.getElem?_eq_some_iff.1 M;rw [j] at F;have Z:=W z (zS (zJ (zC D)));obtain⟨u,q1,-,q3⟩:=B i c F (by omega);rw [q1];exact q3 z y D M
  rw [j] at N;exact N
 ·simp only [yJ,zP];exact .lst (xs:= []) 0 0 (λ_ _=>undef) (by simp) (by simp) (by simp) (by simp) (by simp) (by simp) (by simp)
theorem aME(H:aV U σ S w n) {O:Nat->Prop} (B:∀b,O b->Own U σ S b) {k off len c es:Nat} {xs:List (List V)} {v:Value} (hv:VR (Own U σ S) w σ (.slk k off len c) v)(J:S.get k=some (.row es xs))(C:off+len<=xs.length)
 (G:∀b es cap,σ k=some (some b,es,cap)->¬O b) (t:Bool) (N:t=true->c=len):VR O w (λ_=>none) (.lst es t ((xs.drop off).take len)) v:=by
 have z:=aMD H B (oQ hv) J C G;have j:((xs.drop off).take len).length=len:=by simp;omega
 cases hv with
 |slk M E ha hc=>
  generalize Q:(xs.drop off).take len=ys at z j⊢;generalize f:Value.slice _ _ _=v at z⊢
  cases z with
  | @lst _ _ _ _ Z cap b o F q1 q2 R q4 T W Y=> simp only [Value.slice.injEq] at f;obtain⟨-,-,D⟩:=f;exact .lst b o F q1 q2 R (λh=>by have :=N h;omega) T W Y
 |slk0 M=>
  have :xs.take 0=[]:=by simp
  simp only [yJ,zP] at z⊢;exact .lst (xs:= []) 0 0 (λ_ _=>undef) (by simp) (by simp) (by simp) (by simp) (by simp) (by simp) (by simp)
theorem bKR(G:aV U σ S w n) {k i c:Nat} {cs:List V} {v:Value} (hv:VR (Own U σ S) w σ (.ptr k i c) v)(M:S.get k=some (.box cs))(hi:i=0)(O:cs.all cN=true):VR U w (λ_=>none) (.rp cs.length cs c) v:=by
 have D:=G.obj k _ M;subst hi
 cases hv with
 | @ptr _ _ _ _ b es cap N=>
   rw [N] at D;obtain⟨R,J,C,T,H,Q,z⟩:=D;simp only [zse,Prod.mk.injEq] at J;obtain⟨rfl,rfl,rfl⟩:=J;have f:∀j,j<cs.length->∃u,C[j]? =some u/\u.oneCell'=true/\∀y,cs[j]? =some y->VR U w (λ_=>none) y u:=by intro j B;obtain⟨u,q1,q2,F⟩:=z j _ (zE B);refine⟨u,q1,q2,λy E=>?_⟩;rw [zE B] at E;obtain rfl:=zsi E;exact(aY F (List.all_eq_true.1 O _ (yX B))).mono (cG.refl _ _) (λb _ h=>.inl h) λ_ _=>rfl
   rw [Nat.zero_mul];refine .rp b 0 (λj=>(C[j]?).getD undef) rfl (G.disj b ⟨k,_,_,_,M,N⟩) (Array.getElem?_eq_some_iff.1 H).1 (λj B=>?_) (λj B=>?_) (λj y E=>?_)
   ·obtain⟨u,q1,-,-⟩:=f j B;simp [World.cell?,H,q1]
   ·obtain⟨u,q1,q2,-⟩:=f j B;rw [q1];exact q2
   ·obtain⟨B,-⟩:=List.getElem?_eq_some_iff.1 E;obtain⟨u,q1,-,F⟩:=f j B;rw [q1];exact F y E
theorem aLX(C:aV U σ S w n) {x:V} {v:Value} (hv:VR (Own U σ S) w σ x v)(z:kH S x):VR U w (λ_=>none) (uO S x) v:=by
 have sub:∀ {x v},VR (Own U σ S) w (λ_=>none) x v->VR U w (λ_=>none) x v:=λh=>h.mono (cG.refl _ _) (λb _ h=>.inl h) λ_ _=>rfl
 cases x with
 |sl k B len=>
  simp only [uO];split
  ·rename_i es xs j;have f:B+len<=xs.length:=by simpa [kH,j] using z
   exact aMD C (λb h=>.inl h) hv j f λb es cap D=>C.disj b ⟨k,_,_,_,j,D⟩
  ·exact .any _
 |slk k B len c=>
  simp only [uO];split
  ·rename_i es xs j;have f:B+len<=xs.length:=by simpa [kH,j] using z
   exact aME C (λb h=>.inl h) hv j f (λb es cap D=>C.disj b ⟨k,_,_,_,j,D⟩) _ (λh=>zY h)
  ·exact .any _
 |ptr k i c=>
  simp only [uO];split
  ·rename_i E j;have f:i=0/\E.all cN=true:=by simpa only [kH,j] using z
   exact bKR C hv j f.1 f.2
  ·exact .any _
 |int k n=>exact sub (aY hv rfl)
 |bool b=>exact sub (aY hv rfl)
 |str s=>exact sub (aY hv rfl)
 |nil=>exact sub (aY hv rfl)
 |rp es E c=>exact sub (aY hv rfl)
 |lst es t xs=>exact sub (aY hv rfl)
 |val u=>cases hv;exact .val _
 |_=>exact .any _
theorem bKS(E:aV U σ S w n) {x:V} {v:Value} (hv:VR (Own U σ S) w σ x v)(j:pH S x):VR U w (λ_=>none) (pur S x) v:=by
 by_cases F:∃B,x=.agg B
 ·obtain⟨B,rfl⟩:=F
  cases hv with
  |agg J H=> simp only [pur];refine .agg (by simpa using J) λi y u C M=>?_;rw [zD,zA] at C;obtain⟨D,z,rfl⟩:=C;exact aLX E (H i D u z M) (j D (zC z))
 by_cases G:∃f B,x=.fn f B
 ·obtain⟨f,B,rfl⟩:=G
  cases hv with
  |fn J H=> simp only [pur];refine .fn (by simpa using J) λi y u C M=>?_;rw [zD,zA] at C;obtain⟨D,z,rfl⟩:=C;exact aLX E (H i D u z M) (j D (zC z))
 ·have N:pur S x=uO S x:=by unfold pur;split;exact absurd ⟨_,rfl⟩ F;exact absurd ⟨_,_,rfl⟩ G;rfl
  rw [N];refine aLX E hv ?_;unfold pH at j;split at j
  ·exact absurd ⟨_,rfl⟩ F
  ·exact absurd ⟨_,_,rfl⟩ G
  ·exact j
theorem aLP {O:Nat->Prop} {x:V} {v:Value} (hv:VR O w σ x v)(h:aAP x=true):VR O w (λ_=>none) (uO S x) v:=by
 cases x with
 |sl k f len=>simp [aAP] at h
 |slk k f len c=>simp [aAP] at h
 |ptr k i c=>simp [aAP] at h
 |int k n=>exact aY hv rfl
 |bool b=>exact aY hv rfl
 |str s=>exact aY hv rfl
 |nil=>exact aY hv rfl
 |rp es j c=>exact aY hv rfl
 |lst es t xs=>exact aY hv rfl
 |val u=>cases hv;exact .val _
 |_=>exact .any _
theorem bO6 {O:Nat->Prop} {x:V} {v:Value} (hv:VR O w σ x v)(h:aJT x=true):VR O w (λ_=>none) (pur S x) v:=by
 by_cases D:∃z,x=.agg z
 ·obtain⟨z,rfl⟩:=D
  cases hv with
  |agg G F=> simp only [pur];refine .agg (by simpa using G) λi y u B H=>?_;rw [zD,zA] at B;obtain⟨C,j,rfl⟩:=B;exact aLP (F i C u j H) (List.all_eq_true.1 h C (zC j))
 by_cases E:∃f z,x=.fn f z
 ·obtain⟨f,z,rfl⟩:=E
  cases hv with
  |fn G F=> simp only [pur];refine .fn (by simpa using G) λi y u B H=>?_;rw [zD,zA] at B;obtain⟨C,j,rfl⟩:=B;exact aLP (F i C u j H) (List.all_eq_true.1 h C (zC j))
 ·have J:pur S x=uO S x:=by unfold pur;split;exact absurd ⟨_,rfl⟩ D;exact absurd ⟨_,_,rfl⟩ E;rfl
  rw [J];refine aLP hv ?_;unfold aJT at h;split at h
  ·exact absurd ⟨_,rfl⟩ D
  ·exact absurd ⟨_,_,rfl⟩ E
  ·exact h
theorem aV.none(U:Nat->Prop)(w:World)(hu:∀b,U b->b<w.heap.size)(hg:GlR U w):aV U (λ_=>none) [] w 0 where
 obj:=λk o h=>by simp [aD.get] at h
 inj:=λk k' o o' b es cap es' cap' h=>by simp [aD.get] at h
 fresh:=λk _=>⟨rfl,rfl⟩
 disj:=λb ⟨k,o,es,cap,h,_⟩=>by simp [aD.get] at h
 ulim:=hu
 gl:=hg.less λb h=>h.elim id λ⟨k,o,es,cap,h,_⟩=>by simp [aD.get] at h
theorem aEI {f:FuncId} (F:aV U σ S w n) {args:List V} {j:Array Value} {E:V} (Y:j.size=args.length)(T:∀(i:Nat) v c,args[i]? =some v->j[i]? =some c->VR (Own U σ S) w σ v c)
 (Q:∀v∈args,pH S v) (W:aM P f [] (args.map (pur S)) E []) (Z:args.all aJT=true\/aDU E=true):
 Calls P f j w λe w'=>∃cv,e=.returned cv/\VR (Own U σ S) w' σ E cv/\cG (λ_=>False) w w':=by
 have D:∀b,Own U σ S b->b<w.heap.size:=λb h=>h.elim (F.ulim b) F.size;have z:∀(R:Sg) (b:Nat),¬fD R ([]:aD) b:=λR b ⟨k,o,es,cap,h,_⟩=>by simp [aD.get] at h
 by_cases H:args.all aJT=true
 ·refine(W (Own U σ S) (λ_=>none) w j (aV.none _ w D F.gl) (by simpa using Y) λi v c C N=>?_).mono λe w' ⟨cv,R,O,G,C,g⟩=>⟨cv,O,?_,?_⟩
  ·rw [zD,zA] at C;obtain⟨M,B,rfl⟩:=C;exact(bO6 (S:=S) (T i M c B N) (List.all_eq_true.1 H M (zC B))).mono (cG.refl _ _) (λb _ h=>h.elim id λh=>absurd h (z _ b)) λ_ _=>rfl
  ·exact C.mono (cG.refl _ _) (λb _ h=>.inl h) λk hr=>absurd (G.fresh k (yA _)).2 (C.refs k hr)
  ·exact g.keep.wider λb h=>(z _ b h).elim
 ·have J:=Z.resolve_left H;refine(W U (λ_=>none) w j (aV.none _ w F.ulim (F.gl.less λb h=>.inl h)) (by simpa using Y) λi v c C N=>?_).mono λe w' ⟨cv,R,O,G,C,g⟩=>⟨cv,O,aX0 J C,?_⟩
  ·rw [zD,zA] at C;obtain⟨M,B,rfl⟩:=C;exact(bKS F (T i M c B N) (Q M (zC B))).mono (cG.refl _ _) (λb _ h=>h.elim id λh=>absurd h (z _ b)) λ_ _=>rfl
  ·exact g.keep.wider λb h=>(z _ b h).elim
end
end Go.Sk
namespace Go.Sk
open Go Go.RowKit
variable [gL]
def jB(d:Nat):List Nat->Bool
 | []=>false
 |h::t=>d==h||jB d t
def posOf(k:Nat):List Nat->Nat->Option Nat
 | [],_=>none
 |h::t,j=>match Nat.beq k h with
  |true=>some j
  |false=>posOf k t (j+1)
theorem rC:∀ {k:Nat} {L:List Nat} {i j:Nat},posOf k L i=some j->i<=j/\L[j-i]? =some k
 |_,[],_,_,h=>by simp [posOf] at h
 |k,h::t,i,j,f=>by
  simp only [posOf] at f;split at f
  ·rename_i z;obtain rfl:=zsi f;have :=zY z;subst this;simp
  ·obtain⟨B,h2⟩:=rC f;refine⟨by omega,?_⟩;rw [show j-i=(j- (i+1))+1 by omega,zH];exact h2
def arg1(L:List Nat):V->V
 | .ptr k i c=>match posOf k L 0 with |some j=>.ptr j i c |none=>.any
 | .sl k off len=>match posOf k L 0 with |some j=>.sl j off len |none=>.any
 | .slk k off len c=>match posOf k L 0 with |some j=>.slk j off len c |none=>.any
 | .mp k=>match posOf k L 0 with |some j=>.mp j |none=>.any
 | .int k n=>.int k n
 | .bool b=>.bool b
 | .str s=>.str s
 | .nil=>.nil
 | .rp es cs c=>.rp es cs c
 | .lst es t xs=>.lst es t xs
 | .val v=>.val v
 |_=>.any
def arg2(L:List Nat):V->V
 | .agg cs=>.agg (cs.map (arg1 L))
 | .fn f cs=>.fn f (cs.map (arg1 L))
 |v=>arg1 L v
def bRW:Obj->Bool
 | .row _ _=>true
 | .box cs=>cs.all cN
 | .mp _=>true
 | .bb _=>true
def aV7(L:List Nat):Obj->Obj
 | .row es xs=>.row es xs
 | .box cs=>.box (cs.map (arg1 L))
 | .mp xs=>.mp xs
 | .bb l=>.bb l
def pW(S:aD)(L0:List Nat):List Nat->List Obj->Prop
 | [],[]=>True
 |k::L,o::obs=>(match S.get k with |some p=>aV7 L0 p=o |none=>False)/\pW S L0 L obs
 |_,_=>False
def jJ:List Nat->Bool
 | []=>true
 |k::r=> !jB k r&&jJ r
def mA:aD->List Nat->List Obj->Nat->aD
 |S,_,[],_=>S
 |S,k::L,o::obs,m=>mA (S.set k o) L obs m
 |S,[],o::obs,m=>mA (S.set m o) [] obs (m+1)
def aA9(L:List Nat)(m j:Nat):Nat:=if j<L.length then L.getD j 0 else m+(j-L.length)
def aWI(L:List Nat)(m:Nat):V->V
 | .ptr k i c=>.ptr (aA9 L m k) i c
 | .sl k off len=>.sl (aA9 L m k) off len
 | .slk k off len c=>.slk (aA9 L m k) off len c
 | .mp k=>.mp (aA9 L m k)
 | .int k n=>.int k n
 | .bool b=>.bool b
 | .str s=>.str s
 | .nil=>.nil
 | .rp es cs c=>.rp es cs c
 | .lst es t xs=>.lst es t xs
 | .val v=>.val v
 |_=>.any
def aPE(L:List Nat)(m:Nat):V->V
 | .agg cs=>.agg (cs.map (aWI L m))
 | .fn f cs=>.fn f (cs.map (aWI L m))
 |v=>aWI L m v
def aC7(L:List Nat)(m:Nat):V->V
 | .tup cs=>.tup (cs.map (aPE L m))
 |v=>aPE L m v
def lY(L:List Nat)(m:Nat):Obj->Obj
 | .row es xs=>.row es xs
 | .box cs=>.box (cs.map (aWI L m))
 | .mp xs=>.mp xs
 | .bb l=>.bb l
def qD(P:Program)(f:FuncId)(args:List V)(S:aD)(m:Nat)(K:V->aD->Nat->Prop):Prop:=
 ∃(L:List Nat) (ob0 ob1:List Obj) (res:V),aM P f ob0 (args.map (arg2 L)) res ob1/\pW S L L ob0/\jJ L=true/\Nat.ble L.length ob1.length=true/\Nat.ble ob1.length (L.length+16)=true/\
  K (aC7 L m res) (mA S L (ob1.map (lY L m)) m) (m+16)
theorem hY:∀ {d:Nat} {l:List Nat},jB d l=true↔d∈l
 |d,[]=>by simp [jB]
 |d,h::t=>by simp only [jB,Bool.or_eq_true,zbe,List.mem_cons];exact or_congr Iff.rfl hY
theorem aHO:∀ {L:List Nat},jJ L=true->∀(i j k:Nat),L[i]? =some k->L[j]? =some k->i=j
 | [],_,i,j,k,h,_=>by simp at h
 |a::r,B,i,j,k,hi,z=>by
  simp only [jJ,yY,yT] at B;have f:a∉r:=λC=>by rw [hY.2 C] at B;exact absurd B.1 (by simp)
  cases i with
  |zero=>
   simp only [zG,zse] at hi;subst hi
   cases j with
   |zero=>rfl
   |succ j=>exact absurd (zC (by simpa using z)) f
  |succ i=>
   cases j with
   |zero=> simp only [zG,zse] at z;subst z;exact absurd (zC (by simpa using hi)) f
   |succ j=>rw [aHO B.2 i j k (by simpa using hi) (by simpa using z)]
theorem sC {S:aD} {B:List Nat} :∀ {L:List Nat} {obs:List Obj},pW S B L obs->L.length=obs.length/\∀(j k:Nat),L[j]? =some k->∃p,obs[j]? =some (aV7 B p)/\S.get k=some p
 | [],[],_=>by simp
 | [],_::_,h=>h.elim
 |_::_,[],h=>h.elim
 |a::L,o::obs,h=>by
  obtain⟨f,C⟩:=h;obtain⟨h4,h5⟩:=sC C;refine⟨by simp [h4],λj k z=>?_⟩
  cases j with
  |zero=>
   simp only [zG,zse] at z;subst z;split at f
   ·rename_i p D;subst f;exact⟨p,rfl,D⟩
   ·exact f.elim
  |succ j=>exact h5 j k (by simpa using z)
theorem sN:∀(obs:List Obj) (S:aD) (m k:Nat),(mA S [] obs m).get k=if m<=k/\k<m+obs.length then obs[k-m]? else S.get k
 | [],S,m,k=>by simp [mA];omega
 |o::obs,S,m,k=>by
  simp only [mA];rw [sN obs (S.set m o) (m+1) k,aD.get_set];simp only [yG]
  by_cases h:k=m
  ·subst h;rw [if_neg (by omega),if_pos rfl,if_pos (by omega)];simp
  ·by_cases h2:m<=k/\k<m+(obs.length+1)
   ·rw [if_pos (by omega),if_pos h2,show k-m=(k- (m+1))+1 by omega,zH]
   ·rw [if_neg (by omega),if_neg h,if_neg h2]
theorem aPM:∀(L:List Nat) (obs:List Obj) (S:aD) (m:Nat),L.length<=obs.length->jJ L=true->(∀k∈L,¬(m<=k/\k<m+(obs.length-L.length)))->∀k:Nat,
 (∀j:Nat,L[j]? =some k->(mA S L obs m).get k=obs[j]?)/\
 (m<=k/\k<m+(obs.length-L.length)->(mA S L obs m).get k=obs[L.length+(k-m)]?)/\
 (k∉L->¬(m<=k/\k<m+(obs.length-L.length))->(mA S L obs m).get k=S.get k)
 | [],obs,S,m,_,_,_,k=>by rw [sN];simp only [List.length_nil,zN,yR];refine⟨by simp,λh=>by rw [if_pos h],λ_ h=>by rw [if_neg h]⟩
 |a::L,[],S,m,h,_,_,k=>by simp at h
 |a::L,o::obs,S,m,h,f,z,k=>by
  have J:=f;simp only [jJ,yY,yT] at f;have E:a∉L:=λH=>by rw [hY.2 H] at f;exact absurd f.1 (by simp)
  simp only [yG] at h z;have e1:obs.length+1- (L.length+1)=obs.length-L.length:=by omega
  rw [e1] at z;obtain⟨G,h2,F⟩:=aPM L obs (S.set a o) m (by omega) f.2 (λk B=>z k (yM _ B)) k;simp only [mA,yG,e1];refine⟨λj C=>?_,λB=>?_,λB D=>?_⟩
  ·cases j with
   |zero=> simp only [zG,zse] at C;subst C;rw [F E (z a (by simp)),aD.get_set,if_pos rfl];rfl
   |succ j=>rw [G j (by simpa using C)];rfl
  ·rw [h2 B,show L.length+1+(k-m)=(L.length+(k-m))+1 by omega,zH]
  ·rw [F (λH=>B (yM _ H)) D,aD.get_set,if_neg (λe=>B (by simp [e]))]
section
variable {P:Program} {U:Nat->Prop} {σ:Sg} {S:aD} {w:World} {n m:Nat}
def sgL(σ:Sg)(L:List Nat):Sg:=λj=>match L[j]? with |some k=>σ k |none=>none
def sgR(σ σ':Sg)(L:List Nat)(m c:Nat):Sg:=λk=>if m<=k/\k<m+c then σ' (L.length+(k-m)) else σ k
theorem aFL {O:Nat->Prop} {L:List Nat} {x:V} {v:Value} (hv:VR O w σ x v):VR O w (sgL σ L) (arg1 L x) v:=by
 cases x with
 |ptr k i c=>
  simp only [arg1];split
  ·rename_i j z;have :=(rC z).2;simp only [zN] at this
   cases hv with
   |ptr f=>exact .ptr (by simp only [sgL,this];exact f)
  ·exact .any _
 |sl k D len=>
  simp only [arg1];split
  ·rename_i j z;have :=(rC z).2;simp only [zN] at this
   cases hv with
   |sl f B C=>exact .sl (by simp only [sgL,this];exact f) B C
   |sl0 f=>exact .sl0 (by simp only [sgL,this];exact f)
  ·exact .any _
 |slk k D len c=>
  simp only [arg1];split
  ·rename_i j z;have :=(rC z).2;simp only [zN] at this
   cases hv with
   |slk f B C E=>exact .slk (by simp only [sgL,this];exact f) B C E
   |slk0 f=>exact .slk0 (by simp only [sgL,this];exact f)
  ·exact .any _
 |mp k=>
  simp only [arg1];split
  ·rename_i j z;have :=(rC z).2;simp only [zN] at this
   cases hv with
   |mp f=>exact .mp (by simp only [sgL,this];exact f)
  ·exact .any _
 |int k n=>exact(aY hv rfl).lift _
 |bool b=>exact(aY hv rfl).lift _
 |str s=>exact(aY hv rfl).lift _
 |nil=>exact(aY hv rfl).lift _
 |rp es F c=>exact(aY hv rfl).lift _
 |lst es t xs=>exact(aY hv rfl).lift _
 |val u=>cases hv;exact .val _
 |_=>exact .any _
theorem aSD {O:Nat->Prop} {L:List Nat} {x:V} {v:Value} (hv:VR O w σ x v):VR O w (sgL σ L) (arg2 L x) v:=by
 by_cases G:∃z,x=.agg z
 ·obtain⟨z,rfl⟩:=G
  cases hv with
  |agg D C=> simp only [arg2];refine .agg (by simpa using D) λi y u B E=>?_;rw [zD,zA] at B;obtain⟨F,j,rfl⟩:=B;exact aFL (C i F u j E)
 by_cases H:∃f z,x=.fn f z
 ·obtain⟨f,z,rfl⟩:=H
  cases hv with
  |fn D C=> simp only [arg2];refine .fn (by simpa using D) λi y u B E=>?_;rw [zD,zA] at B;obtain⟨F,j,rfl⟩:=B;exact aFL (C i F u j E)
 ·have J:arg2 L x=arg1 L x:=by unfold arg2;split;exact absurd ⟨_,rfl⟩ G;exact absurd ⟨_,_,rfl⟩ H;rfl
  rw [J];exact aFL hv
theorem aFZ {O:Nat->Prop} {L:List Nat} {σ' E:Sg} (B:∀j,σ' j≠none->E (aA9 L m j)=σ' j) {x:V} {v:Value} (hv:VR O w σ' x v):VR O w E (aWI L m x) v:=by
 cases x with
 |ptr k i c=>cases hv with |ptr f=>exact .ptr ((B _ (by rw [f];simp)).trans f)
 |sl k D len=>
  cases hv with
  |sl f z C=>exact .sl ((B _ (by rw [f];simp)).trans f) z C
  |sl0 f=>exact .sl0 ((B _ (by rw [f];simp)).trans f)
 |slk k D len c=>
  cases hv with
  |slk f z C F=>exact .slk ((B _ (by rw [f];simp)).trans f) z C F
  |slk0 f=>exact .slk0 ((B _ (by rw [f];simp)).trans f)
 |mp k=>cases hv with |mp f=>exact .mp ((B _ (by rw [f];simp)).trans f)
 |int k n=>exact(aY hv rfl).lift _
 |bool b=>exact(aY hv rfl).lift _
 |str s=>exact(aY hv rfl).lift _
 |nil=>exact(aY hv rfl).lift _
 |rp es G c=>exact(aY hv rfl).lift _
 |lst es t xs=>exact(aY hv rfl).lift _
 |val u=>cases hv;exact .val _
 |_=>exact .any _
theorem aU3 {O:Nat->Prop} {L:List Nat} {σ' N:Sg} (G:∀j,σ' j≠none->N (aA9 L m j)=σ' j) {x:V} {v:Value} (hv:VR O w σ' x v):VR O w N (aPE L m x) v:=by
 by_cases J:∃B,x=.agg B
 ·obtain⟨B,rfl⟩:=J
  cases hv with
  |agg E D=> simp only [aPE];refine .agg (by simpa using E) λi y u C F=>?_;rw [zD,zA] at C;obtain⟨H,z,rfl⟩:=C;exact aFZ G (D i H u z F)
 by_cases M:∃f B,x=.fn f B
 ·obtain⟨f,B,rfl⟩:=M
  cases hv with
  |fn E D=> simp only [aPE];refine .fn (by simpa using E) λi y u C F=>?_;rw [zD,zA] at C;obtain⟨H,z,rfl⟩:=C;exact aFZ G (D i H u z F)
 ·have Q:aPE L m x=aWI L m x:=by unfold aPE;split;exact absurd ⟨_,rfl⟩ J;exact absurd ⟨_,_,rfl⟩ M;rfl
  rw [Q];exact aFZ G hv
theorem aU4 {O:Nat->Prop} {L:List Nat} {σ' E:Sg} (D:∀j,σ' j≠none->E (aA9 L m j)=σ' j) {x:V} {v:Value} (hv:VR O w σ' x v):VR O w E (aC7 L m x) v:=by
 by_cases B:∃z,x=.tup z
 ·obtain⟨z,rfl⟩:=B
  cases hv with
  |tup H G=> simp only [aC7];refine .tup (by simpa using H) λi y u C J=>?_;rw [zD,zA] at C;obtain⟨M,f,rfl⟩:=C;exact aU3 D (G i M u f J)
 ·have F:aC7 L m x=aPE L m x:=by unfold aC7;split;exact absurd ⟨_,rfl⟩ B;rfl
  rw [F];exact aU3 D hv
theorem lM.via {O O':Nat->Prop} (N:∀b,O' b->O b) {σ σ':Sg} {C:Option (Option Nat×Nat×Nat)} {o o':Obj}
 (f:match o,o' with | .row es xs,.row es' j=>es'=es/\j=xs | .mp xs,.mp j=>j=xs | .bb l,.bb l'=>l'=l | .box cs,.box B=>B.length=cs.length/\∀(c:Nat) (M:V) (v:Value),B[c]? =some M->(∀y,cs[c]? =some y->VR O w σ y v)->VR O w σ' M v |_,_=>False)
 (h:lM O w σ C o):lM O' w σ' C o':=by
 cases o with
 |row es xs=>
  cases o' with
  |row es' j=>
   obtain⟨rfl,rfl⟩:=f;obtain⟨Q,h⟩:=h;refine⟨Q,?_⟩;rcases C with _ | ⟨_ |b,es',cap⟩
   ·exact h
   ·exact h
   ·obtain⟨rfl,e1,z,R,D,H,E⟩:=h;refine⟨rfl,e1,z,R,D,H,λi x c y hx J=>?_⟩;obtain⟨v,q1,q2,G⟩:=E i x c y hx J;exact⟨v,q1,q2,G.mono (cG.refl _ _) (λb _ h=>N b h) λ_ _=>rfl⟩
  |box _=>exact f.elim
  |mp _=>exact f.elim
  |bb _=>exact f.elim
 |box cs=>
  cases o' with
  |row _ _=>exact f.elim
  |mp _=>exact f.elim
  |bb _=>exact f.elim
  |box B=> obtain⟨Q,W⟩:=f;obtain⟨b,rfl,z,R,D,H,E⟩:=h;refine⟨b,by rw [Q],z,R,D,by omega,λc M F=>?_⟩;obtain⟨Y,-⟩:=List.getElem?_eq_some_iff.1 F;obtain⟨v,q1,q2,G⟩:=E c _ (zE (show c<cs.length by omega));refine⟨v,q1,q2,(W c M v F λy J=>?_).mono (cG.refl _ _) (λb _ h=>N b h) λ_ _=>rfl⟩;rw [zE (show c<cs.length by omega)] at J;obtain rfl:=zsi J;exact G
 |mp xs=>
  cases o' with
  |row _ _=>exact f.elim
  |box _=>exact f.elim
  |bb _=>exact f.elim
  |mp j=> obtain rfl:=f;obtain⟨b,rfl,es,T,D,H,E⟩:=h;refine⟨b,rfl,es,T,D,H,λi p Z=>?_⟩;obtain⟨en,q1,q2,G⟩:=E i p Z;exact⟨en,q1,q2,G.mono (cG.refl _ _) (λb _ h=>N b h) λ_ _=>rfl⟩
 |bb l=>
  cases o' with
  |row _ _=>exact f.elim
  |box _=>exact f.elim
  |mp _=>exact f.elim
  |bb l'=>obtain rfl:=f;exact h
theorem lM.arg {O O':Nat->Prop} (z:∀b,O' b->O b) {σ:Sg} {L:List Nat} {j:Option (Option Nat×Nat×Nat)} {o:Obj} (h:lM O w σ j o):lM O' w (sgL σ L) j (aV7 L o):=by
 refine lM.via z ?_ h
 cases o with
 |row es xs=>exact⟨rfl,rfl⟩
 |mp xs=>rfl
 |bb l=>rfl
 |box D=> refine⟨yC _,λc E v f B=>?_⟩;rw [zD,zA] at f;obtain⟨y,C,rfl⟩:=f;exact aFL (B y C)
theorem lM.ren {O O':Nat->Prop} (C:∀b,O' b->O b) {σ' B:Sg} {L:List Nat} {m:Nat} (F:∀j,σ' j≠none->B (aA9 L m j)=σ' j) {z:Option (Option Nat×Nat×Nat)} {o:Obj} (h:lM O w σ' z o):lM O' w B z (lY L m o):=by
 refine lM.via C ?_ h
 cases o with
 |row es xs=>exact⟨rfl,rfl⟩
 |mp xs=>rfl
 |bb l=>rfl
 |box G=> refine⟨yC _,λc H v f D=>?_⟩;rw [zD,zA] at f;obtain⟨y,E,rfl⟩:=f;exact aFZ F (D y E)
abbrev aJQ(U:Nat->Prop)(σ:Sg)(S:aD)(L:List Nat):Nat->Prop:=λb=>U b\/∃k o es cap,k∉L/\S.get k=some o/\σ k=some (some b,es,cap)
theorem aOI(N:aV U σ S w n) {L:List Nat} {ob0:List Obj} (O:pW S L L ob0)(ac:jJ L=true):(∀b,fD (sgL σ L) (aI 0 ob0) b->∃k o es cap,k∈L/\S.get k=some o/\σ k=some (some b,es,cap))/\
 (∀b,Own (aJQ U σ S L) (sgL σ L) (aI 0 ob0) b->Own U σ S b)/\aV (aJQ U σ S L) (sgL σ L) (aI 0 ob0) w ob0.length:=by
 obtain⟨ae,Q⟩:=sC O;have B:∀j o,(aI 0 ob0).get j=some o->∃k p,L[j]? =some k/\S.get k=some p/\sgL σ L j=σ k/\o=aV7 L p:=by intro j o H;rw [eV,if_pos (yA _),zN] at H;obtain⟨af,-⟩:=List.getElem?_eq_some_iff.1 H;have R:=zE (l:=L) (i:=j) (by omega);obtain⟨p,M,h2⟩:=Q j _ R;rw [H] at M;exact⟨_,p,R,h2,by simp only [sgL,R],zsi M⟩
 have G:∀b,fD (sgL σ L) (aI 0 ob0) b->∃k o es cap,k∈L/\S.get k=some o/\σ k=some (some b,es,cap):=by rintro b ⟨j,o,es,cap,H,hs⟩;obtain⟨k,p,M,h2,C,-⟩:=B j o H;exact⟨k,p,es,cap,zC M,h2,C▸hs⟩
 have z:∀b,Own (aJQ U σ S L) (sgL σ L) (aI 0 ob0) b->Own U σ S b:=by
  rintro b ((J | ⟨k,o,es,cap,-,h2,C⟩)|h)
  ·exact .inl J
  ·exact .inr ⟨k,o,es,cap,h2,C⟩
  ·obtain⟨k,o,es,cap,-,h2,C⟩:=G b h;exact .inr ⟨k,o,es,cap,h2,C⟩
 have aa:aV (aJQ U σ S L) (sgL σ L) (aI 0 ob0) w ob0.length:=by
  refine⟨λj o H=>?_,λj j' o Y b es cap D f H ab hs ad=>?_,λj H=>⟨by rw [eV,if_pos (yA _),zN,yI (by omega)],by simp [sgL,yI (show L.length<=j by omega)]⟩,λb hb J=>?_,λb J=>?_,N.gl.less λb h=>z b h⟩
  ·obtain⟨k,p,M,h2,C,rfl⟩:=B j o H;rw [C];exact(N.obj k p h2).arg z
  ·obtain⟨k,p,M,h2,C,-⟩:=B j o H;obtain⟨W,p',Z,E,F,-⟩:=B j' Y ab;obtain rfl:=N.inj k W p p' b es cap D f h2 E (C▸hs) (F▸ad);exact aHO ac j j' k M Z
  ·obtain⟨k,o,es,cap,R,h2,C⟩:=G b hb;rcases J with J | ⟨W,Y,D,f,T,E,F⟩
   ·exact N.disj b ⟨k,o,es,cap,h2,C⟩ J
   ·obtain rfl:=N.inj k W o Y b es cap D f h2 E C F;exact T R
  ·rcases J with J | ⟨W,Y,D,f,T,E,F⟩
   ·exact N.ulim b J
   ·exact N.size ⟨W,Y,D,f,E,F⟩
 exact⟨G,z,aa⟩
theorem aX6 {T:(Ending->World->Prop)->Prop} (aj:∀ {R R':Ending->World->Prop},T R->(∀e w',R e w'->R' e w')->T R')(hR:aV U σ S w n)(aa:∀i,i<16->S.get (m+i)=none/\σ (m+i)=none) {args:List V} {E:Array Value} (hl:E.size=args.length)
 (ha:∀(i:Nat) v c,args[i]? =some v->E[i]? =some c->VR (Own U σ S) w σ v c) {L:List Nat} {ob0 f:List Obj} {ar:V} (hf:∀U':Nat->Prop,(∀b,U b->U' b)->(∀k o b es cap,k∉L->S.get k=some o->σ k=some (some b,es,cap)->U' b)->aV U' (sgL σ L) (aI 0 ob0) w ob0.length->E.size=(args.map (arg2 L)).length->
  (∀(i:Nat) v c,(args.map (arg2 L))[i]? =some v->E[i]? =some c->VR (Own U' (sgL σ L) (aI 0 ob0)) w (sgL σ L) v c)->
  T λe w'=>∃cv σ',e=.returned cv/\aV U' σ' (aI 0 f) w' f.length/\VR (Own U' σ' (aI 0 f)) w' σ' ar cv/\bP (sgL σ L) (aI 0 ob0) w ob0.length σ' (aI 0 f) w' f.length) (ad:pW S L L ob0) (ap:jJ L=true)
 (az:L.length<=f.length) (a1:f.length<=L.length+16):
 T λe w'=>∃cv σ',e=.returned cv/\(∀k,¬(m<=k/\k<m+16)->σ' k=σ k)/\bP σ S w n σ' (mA S L (f.map (lY L m)) m) w' (max n (m+16))/\aV U σ' (mA S L (f.map (lY L m)) m) w' (max n (m+16))/\VR (Own U σ' (mA S L (f.map (lY L m)) m)) w' σ' (aC7 L m ar) cv:=by
 obtain⟨a2,ab⟩:=sC ad;have H:∀k∈L,¬(m<=k/\k<m+(f.length-L.length)):=λk B ⟨z,h2⟩=>by obtain⟨j,J⟩:=zT B;obtain⟨o,-,N⟩:=ab j k J;have :=(aa (k-m) (by omega)).1;rw [show m+(k-m)=k by omega,N] at this;cases this
 let U':Nat->Prop:=aJQ U σ S L
 obtain⟨Q,am,aw⟩:=aOI hR ad ap;refine aj (hf U' (λb h=>.inl h) (λk o b es cap z h2 N=>.inr ⟨k,o,es,cap,z,h2,N⟩) aw (by simpa using hl) λi v c hv hc=>?_) λe w' ⟨cv,σ',he,ai,hv,g⟩=>?_
 ·rw [zD,zA] at hv;obtain⟨v',a0,rfl⟩:=hv;exact(aSD (ha i v' c a0 hc)).mono (cG.refl _ _) (λb _ h=>am b h) λ_ _=>rfl
 ·
  obtain⟨S2,ax⟩:∃S2,S2=mA S L (f.map (lY L m)) m:=⟨_,rfl⟩;have ao:(f.map (lY L m)).length=f.length:=yC _;have gS:=aPM L (f.map (lY L m)) S m (by omega) ap (by rw [ao];exact H);rw [<-ax] at gS⊢;obtain⟨c,hc⟩:∃c,f.length-L.length=c:=⟨_,rfl⟩;rw [ao] at gS;rw [hc] at H gS
  let Y:=sgR σ σ' L m c
  have ae:∀j k,L[j]? =some k->σ' j=σ k/\Y k=σ k/\σ k≠none:=by
   intro j k J;obtain⟨o,z,h2⟩:=ab j k J;have aq:=hR.loc h2;refine⟨?_,?_,aq⟩
   ·rw [g.sg j (by simp only [sgL,J];exact aq)];simp only [sgL,J]
   ·simp only [Y,sgR,if_neg (H k (zC J))]
  have ag:∀k,m<=k/\k<m+c->Y k=σ' (L.length+(k-m)):=λk B=>by simp only [Y,sgR,if_pos B]
  have O:∀k,¬(m<=k/\k<m+c)->Y k=σ k:=λk B=>by simp only [Y,sgR,if_neg B]
  have hσ:∀j,σ' j≠none->Y (aA9 L m j)=σ' j:=by
   intro j J;have a3:j<f.length:=Nat.lt_of_not_le λaz=>J (ai.fresh j az).2;unfold aA9;split
   ·rename_i h;have B:=zE h;have :L.getD j 0=L[j]:=by simp [yD,B]
    rw [this,(ae j _ B).2.1,(ae j _ B).1]
   ·rename_i h;rw [ag _ ⟨by omega,by omega⟩]
    congr 1;omega
  have C:∀k o,S2.get k=some o->(S.get k=some o/\k∉L/\Y k=σ k)\/(∃j p,(aI 0 f).get j=some p/\Y k=σ' j/\k=aA9 L m j/\o=lY L m p):=by
   intro k o B;have cl:∀j:Nat,(f.map (lY L m))[j]? =some o->∃p,(aI 0 f).get j=some p/\o=lY L m p:=λj J=>by rw [zD,zA] at J;obtain⟨p,hp,rfl⟩:=J;exact⟨p,by rw [eV,if_pos (yA _),zN];exact hp,rfl⟩
   by_cases z:k∈L
   ·obtain⟨j,J⟩:=zT z;rw [(gS k).1 j J] at B;obtain⟨ay,-⟩:=List.getElem?_eq_some_iff.1 J;right;obtain⟨p,ak,al⟩:=cl j B;refine⟨j,p,ak,by rw [(ae j k J).2.1,(ae j k J).1],?_,al⟩;unfold aA9;rw [if_pos ay,yD,J];rfl
   ·by_cases h2:m<=k/\k<m+c
    ·rw [(gS k).2.1 h2] at B;right;obtain⟨p,ak,al⟩:=cl _ B;refine⟨_,p,ak,ag k h2,?_,al⟩;unfold aA9;rw [if_neg (by omega)];omega
    ·rw [(gS k).2.2 z h2] at B;exact .inl ⟨B,z,O k h2⟩
  have g2:bP σ S w n Y S2 w' (max n (m+16)):=by
   refine⟨g.keep.wider λb hb=>by obtain⟨k,o,es,cap,-,h2,N⟩:=Q b hb;exact⟨k,o,es,cap,h2,N⟩,λb hb hO=>?_,λk B=>O k λh=>B (by have :=(aa (k-m) (by omega)).2;rwa [show m+(k-m)=k by omega] at this),by omega⟩;obtain⟨k,o,es,cap,B,W⟩:=hO;rcases C k o B with ⟨z,-,h2⟩| ⟨j,p,z,h2,-,-⟩
   ·exact⟨k,o,es,cap,z,h2▸W⟩
   ·obtain⟨k,o,es,cap,-,h2,N⟩:=Q b (g.own b hb ⟨j,p,es,cap,z,h2▸W⟩);exact⟨k,o,es,cap,h2,N⟩
  have ah:∀b,Own U Y S2 b->Own U' σ' (aI 0 f) b:=by
   rintro b (hu | ⟨k,o,es,cap,B,W⟩)
   ·exact .inl (.inl hu)
   ·rcases C k o B with ⟨z,N,h2⟩| ⟨j,p,z,h2,-,-⟩
    ·exact .inl (.inr ⟨k,o,es,cap,N,z,h2▸W⟩)
    ·exact .inr ⟨j,p,es,cap,z,h2▸W⟩
  have Z:∀b k o es cap,k∉L->S.get k=some o->σ k=some (some b,es,cap)->¬fD σ' (aI 0 f) b:=by intro b k o es cap B z h2 hO;have hb:=hR.size ⟨k,o,es,cap,z,h2⟩;obtain⟨k',o',M,D,ac,F,G⟩:=Q b (g.own b hb hO);obtain rfl:=hR.inj k k' o o' b es cap M D z F h2 G;exact B ac
  refine⟨cv,Y,he,λk B=>O k (by omega),g2,hR.step g2 (λk B=>?_) (λk k' o o' b es cap M D B ac W af=>?_) (λk o B=>?_),(aU4 hσ hv).mono (cG.refl _ _) (λb _ h=>ah b h) λ_ _=>rfl⟩
  ·have z:k∉L:=λhm=>by obtain⟨j,J⟩:=zT hm;obtain⟨o,-,N⟩:=ab j k J;rw [(hR.fresh k (by omega)).1] at N;cases N
   have h2:¬(m<=k/\k<m+c):=by omega
   rw [(gS k).2.2 z h2,O k h2];exact hR.fresh k (by omega)
  ·rcases C k o B with ⟨z,N,h2⟩| ⟨j,p,z,h2,h4,-⟩<;> rcases C k' o' ac with ⟨F,au,G⟩| ⟨j',p',F,G,av,-⟩
   ·exact hR.inj k k' o o' b es cap M D z F (h2▸W) (G▸af)
   ·exact absurd ⟨j',p',M,D,F,G▸af⟩ (Z b k o es cap N z (h2▸W))
   ·exact absurd ⟨j,p,es,cap,z,h2▸W⟩ (Z b k' o' M D au F (G▸af))
   ·rw [h4,av,ai.inj j j' p p' b es cap M D z F (h2▸W) (G▸af)]
  ·rcases C k o B with ⟨z,N,h2⟩| ⟨j,p,z,h2,-,rfl⟩
   ·left;refine⟨z,λb es cap W=>g.keep.block b (hR.size ⟨k,o,es,cap,z,W⟩) λhO=>?_⟩;obtain⟨k',o',M,D,ac,F,G⟩:=Q b hO;obtain rfl:=hR.inj k k' o o' b es cap M D z F W G;exact N ac
   ·right;rw [h2];exact(ai.obj j p z).ren ah hσ
theorem aEX {f:FuncId} (N:aV U σ S w n)(B:∀i,i<16->S.get (m+i)=none/\σ (m+i)=none) {args:List V} {j:Array Value} (R:j.size=args.length)
 (O:∀(i:Nat) v c,args[i]? =some v->j[i]? =some c->VR (Own U σ S) w σ v c) {L:List Nat} {ob0 z:List Obj} {E:V} (Q:aM P f ob0 (args.map (arg2 L)) E z) (C:pW S L L ob0) (M:jJ L=true)
 (J:L.length<=z.length) (D:z.length<=L.length+16):
 Calls P f j w λe w'=>∃cv σ',e=.returned cv/\(∀k,¬(m<=k/\k<m+16)->σ' k=σ k)/\bP σ S w n σ' (mA S L (z.map (lY L m)) m) w' (max n (m+16))/\aV U σ' (mA S L (z.map (lY L m)) m) w' (max n (m+16))/\VR (Own U σ' (mA S L (z.map (lY L m)) m)) w' σ' (aC7 L m E) cv:=
 aX6 (T:=Calls P f j w) (λh k=>h.mono k) N B R O (λW _ _ F H G=>Q W (sgL σ L) w j F H G) C M J D
def aGK(Fz:List Nat):V->Bool
 | .sl k _ _=>jB k Fz
 | .slk k _ _ _=>jB k Fz
 | .ptr _ _ _=>false
 |_=>true
def aE3(Fz:List Nat):V->Bool
 | .agg cs=>cs.all (aGK Fz)
 | .fn _ cs=>cs.all (aGK Fz)
 |v=>aGK Fz v
def aO3(S:aD)(Fz:List Nat):List V->Prop
 | []=>True
 |v::r=>(pH S v/\aE3 Fz v=true)/\aO3 S Fz r
theorem aD4 {S:aD} {f:List Nat} :∀ {l:List V},aO3 S f l->∀v∈l,pH S v/\aE3 f v=true
 | [],_,v,h=>by simp at h
 |a::r,h,v,hv=>by
  rcases List.mem_cons.1 hv with rfl |hv
  ·exact h.1
  ·exact aD4 h.2 v hv
def rV(P:Program)(f:FuncId)(args:List V)(S:aD)(m:Nat)(K:V->aD->Nat->Prop):Prop:= ∃(Fz:List Nat) (res:V),aM P f [] (args.map (pur S)) res []/\aO3 S Fz args/\K res (kD S Fz) (m+1)
theorem aLE(F:aV U σ S w n) {B:List Nat} {x:V} {v:Value} (hv:VR (Own U σ S) w σ x v)(D:kH S x)(H:aGK B x=true):VR (Own U σ (kD S B)) w (λ_=>none) (uO S x) v:=by
 have sub:∀ {x v},VR (Own U σ S) w (λ_=>none) x v->VR (Own U σ (kD S B)) w (λ_=>none) x v:=λh=>h.mono (cG.refl _ _) (λb _ h=>qH h) λ_ _=>rfl
 have E:∀k o,S.get k=some o->jB k B=true->∀b es cap,σ k=some (some b,es,cap)->¬Own U σ (kD S B) b:=λk o f Q b es cap J O=>by
  rcases O with R | ⟨T,W,G,C,M,h2⟩
  ·exact F.disj b ⟨k,o,es,cap,f,J⟩ R
  ·obtain⟨N,h4⟩:=iP M;obtain rfl:=F.inj k T o W b es cap G C f N J h2;exact h4 (hY.1 Q)
 cases x with
 |sl k z len=>
  simp only [uO];split
  ·rename_i es xs f;have j:z+len<=xs.length:=by simpa [kH,f] using D
   exact aMD F (λb h=>qH h) hv f j (E k _ f H)
  ·exact .any _
 |slk k z len c=>
  simp only [uO];split
  ·rename_i es xs f;have j:z+len<=xs.length:=by simpa [kH,f] using D
   exact aME F (λb h=>qH h) hv f j (E k _ f H) _ (λh=>zY h)
  ·exact .any _
 |ptr k i c=>simp [aGK] at H
 |_=>exact sub (aLP (S:=S) hv rfl)
theorem aYP(H:aV U σ S w n) {O:List Nat} {x:V} {v:Value} (hv:VR (Own U σ S) w σ x v)(z:pH S x)(E:aE3 O x=true):VR (Own U σ (kD S O)) w (λ_=>none) (pur S x) v:=by
 by_cases G:∃D,x=.agg D
 ·obtain⟨D,rfl⟩:=G
  cases hv with
  |agg M J=> simp only [pur];refine .agg (by simpa using M) λi y u F N=>?_;rw [zD,zA] at F;obtain⟨C,j,rfl⟩:=F;exact aLE H (J i C u j N) (z C (zC j)) (List.all_eq_true.1 E C (zC j))
 by_cases B:∃f D,x=.fn f D
 ·obtain⟨f,D,rfl⟩:=B
  cases hv with
  |fn M J=> simp only [pur];refine .fn (by simpa using M) λi y u F N=>?_;rw [zD,zA] at F;obtain⟨C,j,rfl⟩:=F;exact aLE H (J i C u j N) (z C (zC j)) (List.all_eq_true.1 E C (zC j))
 ·have Q:pur S x=uO S x:=by unfold pur;split;exact absurd ⟨_,rfl⟩ G;exact absurd ⟨_,_,rfl⟩ B;rfl
  rw [Q];refine aLE H hv ?_ ?_
  ·unfold pH at z;split at z
   ·exact absurd ⟨_,rfl⟩ G
   ·exact absurd ⟨_,_,rfl⟩ B
   ·exact z
  ·unfold aE3 at E;split at E
   ·exact absurd ⟨_,rfl⟩ G
   ·exact absurd ⟨_,_,rfl⟩ B
   ·exact E
theorem aE5 {f:FuncId} (H:aV U σ S w n) {args:List V} {j:Array Value} {G:V} {C:List Nat} (Y:j.size=args.length)(Q:∀(i:Nat) v c,args[i]? =some v->j[i]? =some c->VR (Own U σ S) w σ v c)
 (M:aO3 S C args) (W:aM P f [] (args.map (pur S)) G []):
 Calls P f j w λe w'=>∃cv,e=.returned cv/\VR (Own U σ (kD S C)) w' σ G cv/\cG (λ_=>False) w w':=by
 have D:=H.frz C;have B:∀b,Own U σ (kD S C) b->b<w.heap.size:=λb h=>h.elim (H.ulim b) D.size;have z:∀(O:Sg) (b:Nat),¬fD O ([]:aD) b:=λO b ⟨k,o,es,cap,h,_⟩=>by simp [aD.get] at h
 refine(W (Own U σ (kD S C)) (λ_=>none) w j (aV.none _ w B D.gl) (by simpa using Y) λi v c E R=>?_).mono λe w' ⟨cv,O,T,J,E,g⟩=>⟨cv,T,?_,?_⟩
 ·rw [zD,zA] at E;obtain⟨N,F,rfl⟩:=E;obtain⟨o1,o2⟩:=aD4 M N (zC F);exact(aYP H (Q i N c F R) o1 o2).mono (cG.refl _ _) (λb _ h=>h.elim id λh=>absurd h (z _ b)) λ_ _=>rfl
 ·exact E.mono (cG.refl _ _) (λb _ h=>.inl h) λk Z=>absurd (J.fresh k (yA _)).2 (E.refs k Z)
 ·exact g.keep.wider λb h=>(z _ b h).elim
def sE(P:Program)(f:FuncId)(args:List V)(S:aD)(m:Nat)(K:V->aD->Nat->Prop):Prop:=
 ∃(L:List Nat) (ob0 ob1:List Obj) (res:V),FnM P f ob0 (args.map (arg2 L)) res ob1/\pW S L L ob0/\jJ L=true/\Nat.ble ob1.length 16=true/\
  K (aC7 [] m res) (mA (kD S L) [] (ob1.map (lY [] m)) m) (m+16)
theorem aEC {f:FuncId} (Z:aV U σ S w n)(ae:∀i,i<16->S.get (m+i)=none/\σ (m+i)=none) {args:List V} {F:Array Value} (hl:F.size=args.length)
 (ha:∀(i:Nat) v c,args[i]? =some v->F[i]? =some c->VR (Own U σ S) w σ v c) {L:List Nat} {ob0 B:List Obj} {ag:V} (hf:FnM P f ob0 (args.map (arg2 L)) ag B) (W:pW S L L ob0) (am:jJ L=true)
 (aq:B.length<=16):
 Calls P f F w λe w'=>∃cv σ',e=.returned cv/\(∀k,¬(m<=k/\k<m+16)->σ' k=σ k)/\bP σ S w n σ' (mA (kD S L) [] (B.map (lY [] m)) m) w' (max n (m+16))/\
  aV U σ' (mA (kD S L) [] (B.map (lY [] m)) m) w' (max n (m+16))/\VR (Own U σ' (mA (kD S L) [] (B.map (lY [] m)) m)) w' σ' (aC7 [] m ag) cv:=by
 obtain⟨ar,ap⟩:=sC W
 let U':Nat->Prop:=aJQ U σ S L
 obtain⟨N,af,aj⟩:=aOI Z W am;refine(hf U' (sgL σ L) w F aj (by simpa using hl) λi v c hv hc=>?_).mono λe w' ⟨cv,σ',he,ad,hv,g⟩=>?_
 ·rw [zD,zA] at hv;obtain⟨v',ao,rfl⟩:=hv;exact(aSD (ha i v' c ao hc)).mono (cG.refl _ _) (λb _ h=>af b h) λ_ _=>rfl
 ·obtain⟨S2,ak⟩:∃S2,S2=mA (kD S L) [] (B.map (lY [] m)) m:=⟨_,rfl⟩;have al:(B.map (lY [] m)).length=B.length:=yC _;have gS:=λk=>sN (B.map (lY [] m)) (kD S L) m k;rw [<-ak] at gS⊢;obtain⟨c,hc⟩:∃c,B.length=c:=⟨_,rfl⟩;rw [al,hc] at gS
  let Y:Sg:=λk=>if m<=k/\k<m+c then σ' (k-m) else σ k
  have ab:∀k,m<=k/\k<m+c->Y k=σ' (k-m):=λk D=>by simp only [Y,if_pos D]
  have M:∀k,¬(m<=k/\k<m+c)->Y k=σ k:=λk D=>by simp only [Y,if_neg D]
  have hσ:∀j,σ' j≠none->Y (aA9 [] m j)=σ' j:=by
   intro j hj;have au:j<B.length:=Nat.lt_of_not_le λav=>hj (ad.fresh j av).2;have :aA9 [] m j=m+j:=by simp [aA9]
   rw [this,ab _ ⟨by omega,by omega⟩]
   congr 1;omega
  have z:∀k o,S2.get k=some o->(S.get k=some o/\k∉L/\Y k=σ k)\/(∃j p,(aI 0 B).get j=some p/\Y k=σ' j/\k=m+j/\o=lY [] m p):=by
   intro k o D;rw [gS k] at D;split at D
   ·rename_i h2;right;rw [zD,zA] at D;obtain⟨p,hp,rfl⟩:=D;exact⟨k-m,p,by rw [eV,if_pos (yA _),zN];exact hp,ab k h2,by omega,rfl⟩
   ·rename_i h2;obtain⟨R,h4⟩:=iP D;exact .inl ⟨R,h4,M k h2⟩
  have g2:bP σ S w n Y S2 w' (max n (m+16)):=by
   refine⟨g.keep.wider λb hb=>by obtain⟨k,o,es,cap,-,h2,R⟩:=N b hb;exact⟨k,o,es,cap,h2,R⟩,λb hb hO=>?_,λk D=>M k λh=>D (by have :=(ae (k-m) (by omega)).2;rwa [show m+(k-m)=k by omega] at this),by omega⟩;obtain⟨k,o,es,cap,D,O⟩:=hO;rcases z k o D with ⟨E,-,h2⟩| ⟨j,p,E,h2,-,-⟩
   ·exact⟨k,o,es,cap,E,h2▸O⟩
   ·obtain⟨k,o,es,cap,-,h2,R⟩:=N b (g.own b hb ⟨j,p,es,cap,E,h2▸O⟩);exact⟨k,o,es,cap,h2,R⟩
  have ac:∀b,Own U Y S2 b->Own U' σ' (aI 0 B) b:=by
   rintro b (hu | ⟨k,o,es,cap,D,O⟩)
   ·exact .inl (.inl hu)
   ·rcases z k o D with ⟨E,R,h2⟩| ⟨j,p,E,h2,-,-⟩
    ·exact .inl (.inr ⟨k,o,es,cap,R,E,h2▸O⟩)
    ·exact .inr ⟨j,p,es,cap,E,h2▸O⟩
  have Q:∀b k o es cap,k∉L->S.get k=some o->σ k=some (some b,es,cap)->¬fD σ' (aI 0 B) b:=by intro b k o es cap D E h2 hO;have hb:=Z.size ⟨k,o,es,cap,E,h2⟩;obtain⟨k',o',J,C,T,G,H⟩:=N b (g.own b hb hO);obtain rfl:=Z.inj k k' o o' b es cap J C E G h2 H;exact D T
  refine⟨cv,Y,he,λk D=>M k (by omega),g2,Z.step g2 (λk D=>?_) (λk k' o o' b es cap J C D T O aa=>?_) (λk o D=>?_),(aU4 hσ hv).mono (cG.refl _ _) (λb _ h=>ac b h) λ_ _=>rfl⟩
  ·have h2:¬(m<=k/\k<m+c):=by omega
   refine⟨?_,by rw [M k h2];exact(Z.fresh k (by omega)).2⟩;rw [gS k,if_neg h2]
   cases hd:(kD S L).get k with
   |none=>rfl
   |some o=> have :=(iP hd).1;rw [(Z.fresh k (by omega)).1] at this;cases this
  ·rcases z k o D with ⟨E,R,h2⟩| ⟨j,p,E,h2,h4,-⟩<;> rcases z k' o' T with ⟨G,ah,H⟩| ⟨j',p',G,H,ai,-⟩
   ·exact Z.inj k k' o o' b es cap J C E G (h2▸O) (H▸aa)
   ·exact absurd ⟨j',p',J,C,G,H▸aa⟩ (Q b k o es cap R E (h2▸O))
   ·exact absurd ⟨j,p,es,cap,E,h2▸O⟩ (Q b k' o' J C ah G (H▸aa))
   ·rw [h4,ai,ad.inj j j' p p' b es cap J C E G (h2▸O) (H▸aa)]
  ·rcases z k o D with ⟨E,R,h2⟩| ⟨j,p,E,h2,-,rfl⟩
   ·left;refine⟨E,λb es cap O=>g.keep.block b (Z.size ⟨k,o,es,cap,E,O⟩) λhO=>?_⟩;obtain⟨k',o',J,C,T,G,H⟩:=N b hO;obtain rfl:=Z.inj k k' o o' b es cap J C E G O H;exact R T
   ·right;rw [h2];exact(ad.obj j p E).ren ac hσ
end
end Go.Sk
