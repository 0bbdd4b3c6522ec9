/- Caches. -/
import Derived.Test.YtmhapcbjjpadnaaGreatK1m
import Derived.Laws.IdiomStrings
import Derived.Laws.DeepStrings4
import Derived.Laws.Concat
import Derived.Laws.BytesArg
import Derived.Deep.AppendSrc
import Derived.Deep.Upon
import Derived.Laws.CopyRow
import Derived.Laws.MakeOwn
set_option linter.unusedSimpArgs false
set_option linter.unusedVariables false
open Array renaming getElem?_eq_getElem→zG,getElem?_push→zN,length_toList→zO,toArray_toList→zU,getElem?_toList→yI,range→yK
open List renaming getElem?_eq_getElem→zA,getElem?_cons_zero→zC,getD_eq_getElem?_getD→zD,replicate→zE,length_cons→zH,mem_of_getElem?→zI,getElem?_take→zK,getElem?_append→zL,getElem?_drop→zP,flatten_cons→zQ,getElem?_cons_succ→zR,getElem?_set_self→zS,length_replicate→zT,getElem?_set_ne→zV,mem_cons_of_mem→zW,length_nil→zX,getElem_of_mem→zY,getElem?_append_right→zZ,getElem?_append_left→yA,mem_or_eq_of_mem_set→yB,length_take→yD,length_set→yF,getElem?_eq_none→yH,mem_of_mem_take→yL,append_assoc→yN,zipIdx_cons→yO,getElem_mem→yP
open Nat renaming add_mul→zF,mul_le_mul_right→zM,one_mul→yC,not_lt_zero→yG,le_refl→yJ,add_assoc→yM
open Option renaming map_eq_some_iff→zJ,getD_some→yE,map_some→yQ
set_option linter.unusedSectionVars false
namespace Go.Sk
open Go Go.RowKit
variable [fQ]
section
variable {P:Program} {U:Nat→Prop} {σ:Sg} {S:aC} {w:World} {n:Nat} {ρ:Operand→Value} {e:A→V} {K:V→Prop}
theorem qH(op:BinOp)(t:TypeId)(x y:Operand)(a b:ByteArray)(ht:P.underlying t=some .string)(w':World):(eqGuard op t x y (.string a) (.string b)).run P w'=.ok () w':=by
 have hm:P.eqGuardType P.depth t=false:=by
  cases hd:P.depth with
  |zero=>simp [Program.depth] at hd
  |succ d=>simp [Program.eqGuardType,ht]
 cases op <;> simp [eqGuard,run_program,hm]
theorem aXZ {t:TypeId} {x:Operand} {a:A} (ht:P.underlying t=some .string)(o:Op)(ho:o=.call { callee:=.builtin .len,args:= #[x],argTypes:= #[t] })
 (hx:VR (Own U σ S) w σ (e a) (ρ x)) (hK:fB S (.slen a) e true K):fR P U σ S w ρ o K:=by
 unfold fB at hK
 simp only at hK
 split at hK
 ·rename_i s h1
  rw [h1] at hx
  generalize hva:ρ x=va at hx
  cases hx
  exact⟨_,_,hK,.int _ _,fun w' o' h _=>by simp [execOp,h,ho,resolve,invoke,builtin,Builtin.len_,hva,run_underlying ht,goInt]⟩
 ·exact absurd hK.1 (by simp)
theorem aXY {t:TypeId} {x i:Operand} {a b:A} (ht:P.underlying t=some .string)(hx:VR (Own U σ S) w σ (e a) (ρ x))(hy:VR (Own U σ S) w σ (e b) (ρ i))(hK:fB S (.sidx a b) e true K):fR P U σ S w ρ (.index t x i) K:=by
 unfold fB at hK
 simp only at hK
 split at hK
 ·rename_i s k j h1 h2
  rw [h1] at hx
  rw [h2] at hy
  generalize hva:ρ x=va at hx
  generalize hvb:ρ i=vb at hy
  cases hx
  cases hy
  obtain⟨hj,hK⟩:=hK
  have hj:=hj trivial
  have hlt:j.toNat<s.data.toList.length:=by have :s.data.toList.length=s.size:=rfl;omega
  have e1:s.data.toList.getD j.toNat 0=s[j.toNat]'(by have :s.data.toList.length=s.size:=rfl;omega):=by
   rw [zD,zA hlt];rfl
  rw [e1] at hK
  exact⟨_,_,hK,.int _ _,fun w' o' h _=>by simp [execOp,h,hva,hvb,run_index_string w' t s k j ht,hj]⟩
 ·exact absurd hK.1 (by simp)
theorem aGW {t:TypeId} {x:Operand} {lo hi:Option Operand} {a:A} {la ha:Option A} (ht:P.underlying t=some .string)(hx:VR (Own U σ S) w σ (e a) (ρ x))
 (hlo:match lo,la with |none,none=>True |some l,some l'=>VR (Own U σ S) w σ (e l') (ρ l)|_,_=>False)
 (hhi:match hi,ha with |none,none=>True |some l,some l'=>VR (Own U σ S) w σ (e l') (ρ l)|_,_=>False)
 (hK:fB S (.ssl a la ha) e true K):fR P U σ S w ρ (.slice t x lo hi none) K:=by
 unfold fB at hK
 simp only at hK
 split at hK
 ·rename_i s h1
  rw [h1] at hx
  generalize hva:ρ x=va at hx
  cases hx
  split at hK
  ·rename_i k1 l k2 h e1 e2
   obtain⟨hb,hK⟩:=hK
   obtain⟨b0,b1,b2⟩:=hb trivial
   have B1:bnd ρ lo 0 l:=by
    cases lo with
    |none=>
     cases la with
     |none=>simp only [V.int.injEq] at e1;exact e1.2.symm
     |some _=>exact hlo.elim
    |some z=>
     cases la with
     |none=>exact hlo.elim
     |some z'=>
      simp only at hlo e1
      rw [e1] at hlo
      generalize hv:ρ z=v at hlo
      cases hlo
      exact⟨_,hv⟩
   have B2:bnd ρ hi (s.size:Int) h:=by
    cases hi with
    |none=>
     cases ha with
     |none=>simp only [V.int.injEq] at e2;exact e2.2.symm
     |some _=>exact hhi.elim
    |some z=>
     cases ha with
     |none=>exact hhi.elim
     |some z'=>
      simp only at hhi e2
      rw [e2] at hhi
      generalize hv:ρ z=v at hhi
      cases hhi
      exact⟨_,hv⟩
   refine⟨_,.string (s.extract l.toNat h.toNat),hK,.str _,fun w' o' hop _=>?_⟩
   have h0h:0≤h:=by omega
   have el:((h.toNat:Nat):Int)=h:=Int.toNat_of_nonneg h0h
   have full:s.extract 0 s.size=s:=by simp
   cases lo with
   |none=>
    have B1:l=0:=B1
    subst B1
    cases hi with
    |none=>
     have B2:h=(s.size:Int):=B2
     subst B2
     simp [execOp,hop,Instr.sliceAt,Instr.slice,Instr.sliceBounds,hva,run_underlying ht]
    |some z=>
     obtain⟨k,hz⟩:=B2
     simp [execOp,hop,Instr.sliceAt,Instr.slice,Instr.sliceBounds,Instr.sliceBound,cT,hva,hz,run_underlying ht,h0h,b2]
   |some y=>
    obtain⟨k',hy⟩:=B1
    cases hi with
    |none=>
     have B2:h=(s.size:Int):=B2
     subst B2
     simp [execOp,hop,Instr.sliceAt,Instr.slice,Instr.sliceBounds,Instr.sliceBound,cT,hva,hy,run_underlying ht,b0,b1]
    |some z=>
     obtain⟨k,hz⟩:=B2
     simp [execOp,hop,Instr.sliceAt,Instr.slice,Instr.sliceBounds,Instr.sliceBound,cT,hva,hy,hz,run_underlying ht,b0,h0h,b2,b1,el]
  ·exact absurd hK.1 (by simp)
 ·exact absurd hK.1 (by simp)
theorem aXX {t u:TypeId} {x y:Operand} {a b:A} (ht:P.underlying t=some .string)(hx:VR (Own U σ S) w σ (e a) (ρ x))(hy:VR (Own U σ S) w σ (e b) (ρ y))(hK:fB S (.scat a b) e true K):fR P U σ S w ρ (.binOp .add t x y u) K:=by
 unfold fB at hK
 simp only at hK
 split at hK
 ·rename_i s s' h1 h2
  rw [h1] at hx
  rw [h2] at hy
  generalize hva:ρ x=va at hx
  generalize hvb:ρ y=vb at hy
  cases hx
  cases hy
  obtain⟨hj,hK⟩:=hK
  exact⟨_,_,hK,.str _,fun w' o' h _=>by simp only [execOp,h,hva,hvb,Sem.run_bind,qH _ _ _ _ _ _ ht,Result.andThen_ok,binOp_string_add,run_string_add_sum w' s s' (hj trivial)];rfl⟩
 ·exact absurd hK.1 (by simp)
theorem aUD {neg:Bool} {op:BinOp} {t u:TypeId} {x y:Operand} {a b:A} (ht:P.underlying t=some .string)(hop:op=if neg then .neq else .eql)(hx:VR (Own U σ S) w σ (e a) (ρ x))(hy:VR (Own U σ S) w σ (e b) (ρ y))(hK:fB S (.sqs neg a b) e true K):fR P U σ S w ρ (.binOp op t x y u) K:=by
 unfold fB at hK
 simp only at hK
 split at hK
 ·rename_i s s' h1 h2
  rw [h1] at hx
  rw [h2] at hy
  generalize hva:ρ x=va at hx
  generalize hvb:ρ y=vb at hy
  cases hx
  cases hy
  cases neg with
  |true=>subst hop;exact⟨_,.bool (!lJ s s'),hK,.bool _,fun w' o' h _=>by simp [execOp,h,hva,hvb,qH _ _ _ _ _ _ ht,binOp_string_neq,aA9]⟩
  |false=>subst hop;exact⟨_,.bool (lJ s s'),hK,.bool _,fun w' o' h _=>by simp [execOp,h,hva,hvb,qH _ _ _ _ _ _ ht,binOp_string_eql,aA9]⟩
 ·exact absurd hK.1 (by simp)
theorem aEF:∀ {rows:List (List V)} {l:List UInt8},fM rows=some l→∃ns:List Int,rows=ns.map (fun n=> [V.int .u8 n])∧l=ns.map fun n=>UInt8.ofNat n.toNat
 | [],l,h=>⟨[],rfl,(Option.some.inj h).symm⟩
 |x::r,l,h=>by
  unfold fM at h
  split at h
  ·rename_i e;cases e
  ·rename_i n r' e
   obtain⟨rfl,rfl⟩:=List.cons.inj e
   split at h
   ·rename_i l' h'
    obtain rfl:=Option.some.inj h
    obtain⟨ns,rfl,rfl⟩:=aEF h'
    exact⟨n::ns,rfl,rfl⟩
   ·cases h
  ·cases h
theorem iN:∀l:List UInt8,fM (cJ l)=some l
 | []=>rfl
 |b::r=>by
  show(match fM (cJ r) with |some l=>some (UInt8.ofNat ((b.toNat:Int)).toNat::l)|none=>none)=_
  rw [iN r,Int.toNat_natCast,UInt8.ofNat_toNat]
theorem bD0 {s d el:TypeId} {x:Operand} {a:A} (hs:P.underlying s=some (.slice el))(hd:P.underlying d=some .string)(hel:P.underlying el=some (.int .u8))(hz:bB P el=some 1)(hR:aS U σ S w n)
 (hx:VR (Own U σ S) w σ (e a) (ρ x)) (hK:fB S (.b2s a) e true K):fR P U σ S w ρ (.convert s d x) K:=by
 replace hx:=lK hx
 have fin:∀(ad:Option Addr) (cap:Nat) (rows:List (List V)) (l:List UInt8),fM rows=some l→ρ x=.slice ad rows.length cap→(rows≠ []→∃b o,ad=some ⟨b,o,none⟩∧b<w.heap.size∧∀(i:Nat) (v:V),rows[i]? =some [v]→∃u,w.cell? ⟨b,o+i,none⟩=some u∧VR (Own U σ S) w (fun _=>none) v u)→K (.str ⟨l.toArray⟩)→fR P U σ S w ρ (.convert s d x) K:=by
  intro ad cap rows l hb hv hc hK
  obtain⟨ns,rfl,rfl⟩:=aEF hb
  refine⟨_,.string ⟨(ns.map fun n=>UInt8.ofNat n.toNat).toArray⟩,hK,.str _,fun w' o' h hsm=>?_⟩
  rw [List.length_map] at hv
  have run:(convert s d (.slice ad ns.length cap)).run P w'=.ok (.string ⟨(ns.map fun n=>UInt8.ofNat n.toNat).toArray⟩) w':=by
   rw [run_convert_bytes_string w' s d el ad ns.length cap hs hel hd]
   by_cases h0:ns=[]
   ·subst h0
    cases ad with
    |none=>rfl
    |some a0=>exact(run_bytesToString (P:=P) w' a0 0 cap [] rfl).trans rfl
   ·obtain⟨b,o,rfl,hbs,hcell⟩:=hc (by simpa using h0)
    have hl:=run_loadCells (P:=P) (w:=w') b o (fun j=>Value.int .u8 (ns.getD j 0)) ns.length (fun j hj=>by
     rw [hsm.cell hbs]
     obtain⟨u,hu,hvr⟩:=hcell j (.int .u8 ns[j]) (by simp [hj])
     cases hvr
     rw [hu]
     simp [zD,hj])
    have he:((List.range ns.length).map fun j=>Value.int .u8 (ns.getD j 0))=ns.map (Value.int .u8):=by
     apply List.ext_getElem
     ·simp
     ·intro i h1 h2
      simp at h1
      simp [zD,h1]
    rw [he] at hl
    rw [run_bytesToString w' ⟨b,o,none⟩ ns.length cap ns hl,foldl_push_bytes]
    have he0:ByteArray.empty.data= #[]:=rfl
    rw [he0]
    simp
  simp only [execOp,h,hv,Sem.run_bind,run,Result.andThen_ok]
  rfl
 unfold fB at hK
 simp only at hK
 split at hK
 ·rename_i k off len h1
  rw [h1] at hx
  generalize hva:ρ x=va at hx
  split at hK
  ·rename_i xs ho
   split at hK
   ·rename_i l hb
    obtain⟨hle,hK⟩:=hK
    have hle:=hle trivial
    have hlen:((xs.drop off).take len).length=len:=by simp;omega
    have hob:=hR.obj k _ ho
    cases hx with
    | @sl _ _ _ _ blk es2 cap ad hs' hle' had=>
      rw [hs'] at hob
      obtain⟨hl,rfl,hcap,arr,ty,hh,hsz,hcells⟩:=hob
      refine fin ad (cap-off) _ l hb (by rw [hlen];exact hva) (fun hne=>?_) hK
      have hpos:=List.length_pos_iff.2 hne
      rw [hlen] at hpos
      refine⟨blk,off*1,had (by omega),(Array.getElem?_eq_some_iff.1 hh).1,fun i v hv=>?_⟩
      rw [zK] at hv
      split at hv
      ·rw [zP] at hv
       obtain⟨u,q1,-,q3⟩:=hcells (off+i) _ 0 v hv rfl
       exact⟨u,by simp only [World.cell?,hh];rw [show off*1+i=(off+i)*1+0 by omega];simpa using q1,q3⟩
      ·cases hv
    |sl0 hs'=>
     refine fin _ 0 _ l hb (by rw [hlen];exact hva) (fun hne=>?_) hK
     simp at hne
   ·exact absurd hK.1 (by simp)
  ·rename_i l ho
   obtain⟨hle,hK⟩:=hK
   have hle:=hle trivial
   have hlen:(cJ ((l.drop off).take len)).length=len:=by unfold cJ;simp;omega
   have hob:=hR.obj k _ ho
   cases hx with
   | @sl _ _ _ _ blk es2 cap ad hs' hle' had=>
     rw [hs'] at hob
     obtain⟨b',cap',hl,hcap,arr,ty,hh,hsz,hcells⟩:=hob
     simp only [Option.some.injEq,Prod.mk.injEq] at hl
     obtain⟨rfl,rfl,rfl⟩:=hl
     refine fin ad (cap-off) _ _ (iN _) (by rw [hlen];exact hva) (fun hne=>?_) hK
     have hpos:=List.length_pos_iff.2 hne
     rw [hlen] at hpos
     refine⟨blk,off*1,had (by omega),(Array.getElem?_eq_some_iff.1 hh).1,fun i v hv=>?_⟩
     unfold cJ at hv
     rw [List.getElem?_map,zJ] at hv
     obtain⟨x,hx',hv⟩:=hv
     simp only [List.cons.injEq,and_true] at hv
     subst hv
     rw [zK] at hx'
     split at hx'
     ·rw [zP] at hx'
      exact⟨.int .u8 (x.toNat:Int),by simp only [World.cell?,hh];rw [show off*1+i=off+i by omega];exact hcells (off+i) x hx',.int _ _⟩
     ·cases hx'
   |sl0 hs'=>
    refine fin _ 0 _ _ (iN _) (by rw [hlen];exact hva) (fun hne=>?_) hK
    simp [cJ] at hne
  ·exact absurd hK.1 (by simp)
 ·rename_i t xs h1
  rw [h1] at hx
  generalize hva:ρ x=va at hx
  split at hK
  ·rename_i l hb
   cases hx with
   |lst b o cv ha hes hcap ht hc1 hc3 hc2=>
    refine fin _ _ xs l hb hva (fun hne=>?_) hK
    obtain⟨e1,-,e3⟩:=ha hne
    refine⟨b,o,e1,e3,fun i v hv=>?_⟩
    have hi:=(List.getElem?_eq_some_iff.1 hv).1
    refine⟨cv i 0,?_,(hc2 i _ 0 v hv rfl).mono (cM.refl _ _) (fun b _ h=>h) fun _ _=>rfl⟩
    rw [←hc1 i 0 hi (by omega)]
    congr 2
    omega
  ·exact absurd hK.1 (by simp)
 ·exact absurd hK.1 (by simp)
theorem aQ4 {o:Op} {i:I} (h:aY4 P o=some i)(hR:aS U σ S w n)(he:∀x a,bF x=some a→VR (Own U σ S) w σ (e a) (ρ x))(hK:fB S i e true K):fR P U σ S w ρ o K:=by
 unfold aY4 at h
 split at h
 ·split at h
  ·rename_i h1 h2 h3
   split at h
   ·obtain rfl:=Option.some.inj h;exact aXX h1 (he _ _ h2) (he _ _ h3) hK
   ·obtain rfl:=Option.some.inj h;exact aUD h1 rfl (he _ _ h2) (he _ _ h3) hK
   ·obtain rfl:=Option.some.inj h;exact aUD h1 rfl (he _ _ h2) (he _ _ h3) hK
   ·cases h
  ·cases h
 ·split at h
  ·rename_i h1 h2 h3
   split at h
   ·rename_i h4 h5
    obtain rfl:=Option.some.inj h
    exact bD0 h1 h2 h4 h5 hR (he _ _ h3) hK
   ·cases h
  ·cases h
 ·split at h
  ·rename_i h1 h2 h3
   obtain rfl:=Option.some.inj h
   exact aXY h1 (he _ _ h2) (he _ _ h3) hK
  ·cases h
 ·split at h
  ·rename_i h1 h2
   split at h
   ·obtain rfl:=Option.some.inj h
    exact aGW h1 (he _ _ h2) trivial trivial hK
   ·simp only [zJ] at h
    obtain⟨z,h4,rfl⟩:=h
    exact aGW h1 (he _ _ h2) (he _ _ h4) trivial hK
   ·simp only [zJ] at h
    obtain⟨z,h4,rfl⟩:=h
    exact aGW h1 (he _ _ h2) trivial (he _ _ h4) hK
   ·split at h
    ·rename_i h4 h5
     obtain rfl:=Option.some.inj h
     exact aGW h1 (he _ _ h2) (he _ _ h4) (he _ _ h5) hK
    ·cases h
  ·cases h
 ·rename_i args ats
  split at h
  ·rename_i x t ha hb
   split at h
   ·rename_i h1 h2
    obtain rfl:=Option.some.inj h
    have ha:args= #[x]:=by rw [←zU (xs:=args),ha]
    have hb:ats= #[t]:=by rw [←zU (xs:=ats),hb]
    subst ha hb
    exact aXZ h1 _ rfl (he _ _ h2) hK
   ·cases h
  ·cases h
 ·cases h
theorem aQ5 {o:Op} {i:I} (h:aDJ P o=some i)(hc:∀v,ρ (.const v)=v)(hR:aS U σ S w n)(he:∀x a,bF x=some a→VR (Own U σ S) w σ (e a) (ρ x))(hK:fB S i e true K):fR P U σ S w ρ o K:=by
 unfold aDJ at h
 split at h
 ·rename_i h1
  obtain rfl:=Option.some.inj h
  exact aUC h1 hc hR he hK
 ·exact aQ4 h hR he hK
end
end Go.Sk
namespace Go.Sk
open Go Go.RowKit
variable [fQ]
def mT:V→Bool
 | .int _ _=>true | .bool _=>true | .str _=>true | .nil=>true | .ptr _ _ _=>true | .rp _ _ _=>true | .sl _ _ _=>true | .slx _ _ _=>true | .slk _ _ _ _=>true | .lst _ _ _=>true | .fn _ _=>true | .mp _=>true
 | .val v=>v.oneCell'
 |_=>false
def bW:V→Bool
 | .int _ _=>true | .bool _=>true | .str _=>true | .nil=>true | .rp _ _ _=>true | .lst _ _ _=>true
 | .val v=>v.oneCell'
 |_=>false
def V.cells?:V→Option (List V)
 | .agg cs=>some cs
 |v=>if mT v then some [v] else none
theorem aDB {O:Nat→Prop} {w:World} {σ:Sg} {x:V} {v:Value} (h:VR O w σ x v)(h1:mT x=true):v.oneCell'=true:=by
 cases h <;> first |rfl | (simp [mT] at h1;done)| (simpa [mT] using h1)
theorem aU {O:Nat→Prop} {w:World} {σ:Sg} {x:V} {v:Value} (h:VR O w σ x v)(h1:bW x=true):VR O w (fun _=>none) x v:=by
 cases h <;> first
  |exact .int _ _ |exact .bool _ |exact .str _ |exact .nil |exact .val _
  | (exact .rp _ _ _ ‹_› ‹_› ‹_› ‹_› ‹_› ‹_›)
  | (exact .lst _ _ _ ‹_› ‹_› ‹_› ‹_› ‹_› ‹_› ‹_›)
  | (simp [bW] at h1)
theorem aL3 {x:V} (h:bW x=true):mT x=true:=by cases x <;> simp_all [bW,mT]
theorem qD {O:Nat→Prop} {w:World} {σ:Sg} {x:V} {v:Value} {cs:List V} (h:VR O w σ x v)(hc:x.cells?=some cs)(h1:cs.all mT=true):
 v.cells.size=cs.length∧∀(i:Nat) (y:V),cs[i]? =some y→∃u,v.cells[i]? =some u∧u.oneCell'=true∧VR O w σ y u:=by
 have key:∀y∈cs,mT y=true:=List.all_eq_true.1 h1
 by_cases ha:∃cs',x=.agg cs'
 ·obtain⟨cs',rfl⟩:=ha
  simp only [V.cells?,Option.some.injEq] at hc
  subst hc
  cases h with
  |agg hn h=>
   refine⟨hn,fun i y hy=>?_⟩
   obtain⟨hi,-⟩:=List.getElem?_eq_some_iff.1 hy
   have hu:=zG (hn▸hi)
   have hv:=h i y _ hy hu
   exact⟨_,hu,aDB hv (key y (zI hy)),hv⟩
 ·have hone:mT x=true∧cs=[x]:=by
   unfold V.cells? at hc
   split at hc
   ·exact absurd ⟨_,rfl⟩ ha
   ·split at hc
    ·rename_i h2;exact⟨h2,(Option.some.inj hc).symm⟩
    ·cases hc
  obtain⟨hx,rfl⟩:=hone
  have h1c:=aDB h hx
  have hcells:v.cells= #[v]:=by cases v <;> first |rfl | (simp [Value.oneCell'] at h1c)
  rw [hcells]
  refine⟨rfl,fun i y hy=>?_⟩
  cases i with
  |zero=>simp only [zC,Option.some.injEq] at hy;subst hy;exact⟨v,rfl,h1c,h⟩
  |succ i=>simp at hy
section
variable {U:Nat→Prop} {σ:Sg} {S:aC} {w:World} {n:Nat}
theorem jV.grow {σ':Sg} {S':aC} {w':World} {n':Nat} (g:bL σ S w n σ' S' w' n') {loc:Option (Option Nat×Nat×Nat)} {o:Obj}
 (h:jV (Own U σ S) w σ loc o) (hb:∀b es cap,loc=some (some b,es,cap)→w'.heap[b]? =w.heap[b]?):jV (Own U σ' S') w' σ' loc o:=by
 have g0:∀ {x v},VR (Own U σ S) w (fun _=>none) x v→VR (Own U σ' S') w' (fun _=>none) x v:=fun h=>h.mono (g.keepU U) (g.ownU U) fun _ _=>rfl
 cases o with
 |row es xs=>
  obtain⟨hl,h⟩:=h
  refine⟨hl,?_⟩
  rcases loc with _ | ⟨_ |b,es',cap⟩
  ·exact h
  ·exact h
  ·obtain⟨rfl,hc,arr,ty,hh,hs,hv⟩:=h
   refine⟨rfl,hc,arr,ty,(hb b _ _ rfl).trans hh,hs,fun i x c y hx hy=>?_⟩
   obtain⟨v,h1,h2,h3⟩:=hv i x c y hx hy
   exact⟨v,h1,h2,g0 h3⟩
 |box cs=>
  obtain⟨b,rfl,arr,ty,hh,hs,hv⟩:=h
  refine⟨b,rfl,arr,ty,(hb b _ _ rfl).trans hh,hs,fun c y hy=>?_⟩
  obtain⟨v,h1,h2,h3⟩:=hv c y hy
  exact⟨v,h1,h2,h3.grow g⟩
 |mp xs=>
  obtain⟨b,rfl,es,ck,hh,hs,hv⟩:=h
  refine⟨b,rfl,es,ck,(hb b _ _ rfl).trans hh,hs,fun i p hp=>?_⟩
  obtain⟨en,h1,h2,h3⟩:=hv i p hp
  exact⟨en,h1,h2,g0 h3⟩
 |bb l=>
  obtain⟨b,cap,rfl,hc,arr,ty,hh,hs,hv⟩:=h
  exact⟨b,cap,rfl,hc,arr,ty,(hb b _ _ rfl).trans hh,hs,hv⟩
theorem aS.step(hR:aS U σ S w n) {σ':Sg} {S':aC} {w':World} {n':Nat} (g:bL σ S w n σ' S' w' n')(fresh:∀k,n'≤k→S'.get k=none∧σ' k=none)
 (hinj:∀k k' o o' b es cap es' cap',S'.get k=some o→S'.get k'=some o'→σ' k=some (some b,es,cap)→σ' k'=some (some b,es',cap')→k=k')
 (hobj:∀k o,S'.get k=some o→(S.get k=some o∧∀b es cap,σ k=some (some b,es,cap)→w'.heap[b]? =w.heap[b]?)∨jV (Own U σ' S') w' σ' (σ' k) o):aS U σ' S' w' n' where
 fresh:=fresh
 disj:=fun b hb hu=>hR.disj b (g.own b (hR.ulim b hu) hb) hu
 ulim:=fun b hu=>Nat.lt_of_lt_of_le (hR.ulim b hu) g.keep.size
 gl:=hR.gl.mono (g.keepU U) (g.ownU U)
 inj:=hinj
 obj:=fun k o ho=>by
  rcases hobj k o ho with ⟨h1,h2⟩|h
  ·rw [g.sg k (hR.loc h1)]
   exact(hR.obj k o h1).grow g h2
  ·exact h
def Sg.put(σ:Sg)(n:Nat)(loc:Option Nat×Nat×Nat):Sg:=fun k=>if k=n then some loc else σ k
theorem Sg.put_same(σ:Sg)(n:Nat)(loc:Option Nat×Nat×Nat):σ.put n loc n=some loc:=by simp [Sg.put]
theorem Sg.put_other(σ:Sg) {n k:Nat} (loc:Option Nat×Nat×Nat)(h:k≠n):σ.put n loc k=σ k:=by simp [Sg.put,h]
structure kP(w w':World)(arr:Array Value)(ty:TypeId×Bool):Prop where
 os:w'.os=w.os
 tape:w'.tape=w.tape
 output:w'.output=w.output
 heap:w'.heap=w.heap.push (.cells arr ty.1 (mkF ty.2 arr.size))
theorem kP.alloc(w:World)(arr:Array Value)(ty:TypeId):kP w (w.alloc (.cells arr ty)) arr (ty,false):=⟨rfl,rfl,rfl,rfl⟩
theorem kP.drewAlloc(w:World)(arr:Array Value)(ty:TypeId):kP w (w.drew.alloc (.cells arr ty)) arr (ty,false):=⟨rfl,rfl,rfl,rfl⟩
theorem kP.new {w w':World} {arr:Array Value} {ty:TypeId×Bool} (h:kP w w' arr ty):w'.heap[w.heap.size]? =some (.cells arr ty.1 (mkF ty.2 arr.size)):=by rw [h.heap];simp
theorem kP.old {w w':World} {arr:Array Value} {ty:TypeId×Bool} (h:kP w w' arr ty) {b:Nat} (hb:b<w.heap.size):w'.heap[b]? =w.heap[b]? :=by
 rw [h.heap,zN,if_neg (by omega)]
theorem kP.keep {w w':World} {arr:Array Value} {ty:TypeId×Bool} (h:kP w w' arr ty)(O:Nat→Prop):cM O w w':=
 ⟨h.os,h.tape,h.output,by rw [h.heap];simp,fun b hb _=>h.old hb⟩
theorem aS.fresh_obj(hR:aS U σ S w n) {m:Nat} (hfree:S.get m=none∧σ m=none) {w':World} (hkeep:∀O,cM O w w')(hold:∀b,b<w.heap.size→w'.heap[b]? =w.heap[b]?)(S0:aC)(hS0:∀k o,S0.get k=some o→S.get k=some o)(es cap:Nat)(o:Obj)
 (ho:bL σ S w n (σ.put m (some w.heap.size,es,cap)) (S0.set m o) w' (max n (m+1))→jV (Own U (σ.put m (some w.heap.size,es,cap)) (S0.set m o)) w' (σ.put m (some w.heap.size,es,cap)) (some (some w.heap.size,es,cap)) o):
 bL σ S w n (σ.put m (some w.heap.size,es,cap)) (S0.set m o) w' (max n (m+1))∧aS U (σ.put m (some w.heap.size,es,cap)) (S0.set m o) w' (max n (m+1)):=by
 have hget:∀k p,(S0.set m o).get k=some p→(k=m∧p=o)∨(k≠m∧S.get k=some p):=by
  intro k p hk
  rw [aC.get_set] at hk
  split at hk
  ·rename_i h;exact .inl ⟨h,(Option.some.inj hk).symm⟩
  ·rename_i h;exact .inr ⟨h,hS0 k p hk⟩
 have g:bL σ S w n (σ.put m (some w.heap.size,es,cap)) (S0.set m o) w' (max n (m+1)):=by
  refine⟨hkeep _,fun b hb hO=>?_,fun k hk=>Sg.put_other _ _ (fun e=>hk (e▸hfree.2)),by omega⟩
  obtain⟨k,p,es',cap',hk,hs⟩:=hO
  rcases hget k p hk with ⟨rfl,-⟩| ⟨hne,hk'⟩
  ·rw [Sg.put_same] at hs
   simp only [Option.some.injEq,Prod.mk.injEq] at hs
   omega
  ·rw [Sg.put_other _ _ hne] at hs
   exact⟨k,p,es',cap',hk',hs⟩
 refine⟨g,hR.step g (fun k hk=>?_) (fun k k' p p' b e1 c1 e2 c2 hk hk' hs hs'=>?_) fun k p hk=>?_⟩
 ·rw [aC.get_set,if_neg (by omega),Sg.put_other _ _ (by omega)]
  refine⟨?_,(hR.fresh k (by omega)).2⟩
  cases h:S0.get k with
  |none=>rfl
  |some p=>have :=hS0 k p h;rw [(hR.fresh k (by omega)).1] at this;cases this
 ·rcases hget k p hk with ⟨rfl,-⟩| ⟨hne,h1⟩<;> rcases hget k' p' hk' with ⟨rfl,-⟩| ⟨hne',h1'⟩
  ·rfl
  ·rw [Sg.put_same] at hs
   rw [Sg.put_other _ _ hne'] at hs'
   have :=hR.size ⟨k',p',e2,c2,h1',hs'⟩
   simp only [Option.some.injEq,Prod.mk.injEq] at hs
   omega
  ·rw [Sg.put_same] at hs'
   rw [Sg.put_other _ _ hne] at hs
   have :=hR.size ⟨k,p,e1,c1,h1,hs⟩
   simp only [Option.some.injEq,Prod.mk.injEq] at hs'
   omega
  ·rw [Sg.put_other _ _ hne] at hs
   rw [Sg.put_other _ _ hne'] at hs'
   exact hR.inj k k' p p' b e1 c1 e2 c2 h1 h1' hs hs'
 ·rcases hget k p hk with ⟨rfl,rfl⟩| ⟨hne,h1⟩
  ·right;rw [Sg.put_same];exact ho g
  ·left;exact⟨h1,fun b e1 c1 hs=>hold b (hR.size ⟨k,p,e1,c1,h1,hs⟩)⟩
theorem aS.new_box(hR:aS U σ S w n) {m:Nat} (hfree:S.get m=none∧σ m=none) {w':World} {arr:Array Value} {ty:TypeId} (hm:kP w w' arr (ty,false)) {cs:List V} (hsz:arr.size=cs.length)
 (hc:∀(i:Nat) (y:V),cs[i]? =some y→∃u,arr[i]? =some u∧u.oneCell'=true∧VR (Own U σ S) w σ y u):
 bL σ S w n (σ.put m (some w.heap.size,cs.length,1)) (S.set m (.box cs)) w' (max n (m+1))∧aS U (σ.put m (some w.heap.size,cs.length,1)) (S.set m (.box cs)) w' (max n (m+1)):=
 hR.fresh_obj hfree hm.keep (fun _ hb=>hm.old hb) S (fun _ _ h=>h) _ _ _ fun g=>⟨_,rfl,arr,ty,hm.new,hsz,fun c y hy=>by
   obtain⟨u,h1,h2,h3⟩:=hc c y hy
   exact⟨u,h1,h2,h3.grow g⟩⟩
theorem aS.new_bytes(hR:aS U σ S w n) {m:Nat} (hfree:S.get m=none∧σ m=none) {w':World} {arr:Array Value} {ty:TypeId} {l:List UInt8} {cap:Nat} (hos:w'.os=w.os)(htape:w'.tape=w.tape)(hout:w'.output=w.output)
 (hheap:w'.heap=w.heap.push (.cells arr ty (arr.size,arr.size+1))) (hc:l.length≤cap∧cap≤9223372036854775807) (hsz:cap≤arr.size) (hv:∀(i:Nat) (x:UInt8),l[i]? =some x→arr[i]? =some (.int .u8 (x.toNat:Int))):
 bL σ S w n (σ.put m (some w.heap.size,1,cap)) (S.set m (.bb l)) w' (max n (m+1))∧aS U (σ.put m (some w.heap.size,1,cap)) (S.set m (.bb l)) w' (max n (m+1)):=by
 have hold:∀b,b<w.heap.size→w'.heap[b]? =w.heap[b]? :=fun b hb=>by rw [hheap,zN,if_neg (by omega)]
 exact hR.fresh_obj hfree (fun O=>⟨hos,htape,hout,by rw [hheap];simp,fun b hb _=>hold b hb⟩) hold S (fun _ _ h=>h) 1 cap (.bb l) fun g=>⟨_,_,rfl,hc,arr,ty,by rw [hheap];simp,hsz,hv⟩
theorem aS.new_map(ks:Nat)(hR:aS U σ S w n) {m:Nat} (hfree:S.get m=none∧σ m=none):
 bL σ S w n (σ.put m (some w.heap.size,0,0)) (S.set m (.mp (ks,[]))) (w.alloc (.map #[] 0)) (max n (m+1))∧aS U (σ.put m (some w.heap.size,0,0)) (S.set m (.mp (ks,[]))) (w.alloc (.map #[] 0)) (max n (m+1)):=by
 have hh:(w.alloc (.map #[] 0)).heap=w.heap.push (.map #[] 0):=rfl
 have hold:∀b,b<w.heap.size→(w.alloc (.map #[] 0)).heap[b]? =w.heap[b]? :=fun b hb=>by rw [hh,zN,if_neg (by omega)]
 exact hR.fresh_obj hfree (w':=w.alloc (.map #[] 0)) (fun O=>⟨rfl,rfl,rfl,by rw [hh];simp,fun b hb _=>hold b hb⟩) hold S (fun _ _ h=>h) 0 0 (.mp (ks,[])) fun g=>⟨_,rfl,#[],0,by rw [hh];simp,rfl,fun i p hp=>by simp at hp⟩
theorem aS.new_row(hR:aS U σ S w n) {m:Nat} (hfree:S.get m=none∧σ m=none) {w':World} {arr:Array Value} {ty:TypeId×Bool} (hm:kP w w' arr ty)(S0:aC)(hS0:∀k o,S0.get k=some o→S.get k=some o) {es cap:Nat} {xs:List (List V)} (hes:∀x∈xs,x.length=es)(hcap:xs.length≤cap∧cap≤9223372036854775807)(hsz:cap*es≤arr.size)
 (hc:∀(i:Nat) (x:List V) (c:Nat) (y:V),xs[i]? =some x→x[c]? =some y→∃u,arr[i*es+c]? =some u∧u.oneCell'=true∧VR (Own U σ S) w (fun _=>none) y u):
 bL σ S w n (σ.put m (some w.heap.size,es,cap)) (S0.set m (.row es xs)) w' (max n (m+1))∧aS U (σ.put m (some w.heap.size,es,cap)) (S0.set m (.row es xs)) w' (max n (m+1)):=
 hR.fresh_obj hfree hm.keep (fun _ hb=>hm.old hb) S0 hS0 _ _ _ fun g=>⟨hes,rfl,hcap,arr,ty,hm.new,hsz,fun i x c y hx hy=>by
   obtain⟨u,h1,h2,h3⟩:=hc i x c y hx hy
   exact⟨u,h1,h2,h3.mono (g.keepU U) (g.ownU U) fun _ _=>rfl⟩⟩
theorem aS.new_nil(hR:aS U σ S w n) {m:Nat} (hfree:S.get m=none∧σ m=none)(es:Nat)(S0:aC)(hS0:∀k o,S0.get k=some o→S.get k=some o):
 bL σ S w n (σ.put m (none,es,0)) (S0.set m (.row es [])) w (max n (m+1))∧aS U (σ.put m (none,es,0)) (S0.set m (.row es [])) w (max n (m+1)):=by
 have hget:∀k p,(S0.set m (.row es [])).get k=some p→(k=m∧p=.row es [])∨(k≠m∧S.get k=some p):=by
  intro k p hk
  rw [aC.get_set] at hk
  split at hk
  ·rename_i h;exact .inl ⟨h,(Option.some.inj hk).symm⟩
  ·rename_i h;exact .inr ⟨h,hS0 k p hk⟩
 have g:bL σ S w n (σ.put m (none,es,0)) (S0.set m (.row es [])) w (max n (m+1)):=by
  refine⟨cM.refl _ _,fun b hb hO=>?_,fun k hk=>Sg.put_other _ _ (fun e=>hk (e▸hfree.2)),by omega⟩
  obtain⟨k,p,es',cap',hk,hs⟩:=hO
  rcases hget k p hk with ⟨rfl,-⟩| ⟨hne,hk'⟩
  ·rw [Sg.put_same] at hs;simp at hs
  ·rw [Sg.put_other _ _ hne] at hs
   exact⟨k,p,es',cap',hk',hs⟩
 refine⟨g,hR.step g (fun k hk=>?_) (fun k k' p p' b e1 c1 e2 c2 hk hk' hs hs'=>?_) fun k p hk=>?_⟩
 ·rw [aC.get_set,if_neg (by omega),Sg.put_other _ _ (by omega)]
  refine⟨?_,(hR.fresh k (by omega)).2⟩
  cases h:S0.get k with
  |none=>rfl
  |some p=>have :=hS0 k p h;rw [(hR.fresh k (by omega)).1] at this;cases this
 ·rcases hget k p hk with ⟨rfl,-⟩| ⟨hne,h1⟩<;> rcases hget k' p' hk' with ⟨rfl,-⟩| ⟨hne',h1'⟩
  ·rfl
  ·rw [Sg.put_same] at hs;simp at hs
  ·rw [Sg.put_same] at hs';simp at hs'
  ·rw [Sg.put_other _ _ hne] at hs
   rw [Sg.put_other _ _ hne'] at hs'
   exact hR.inj k k' p p' b e1 c1 e2 c2 h1 h1' hs hs'
 ·rcases hget k p hk with ⟨rfl,rfl⟩| ⟨hne,h1⟩
  ·right;rw [Sg.put_same];exact⟨by simp,rfl,rfl,rfl⟩
  ·left;exact⟨h1,fun _ _ _ _=>rfl⟩
theorem aS.write(hR:aS U σ S w n) {k:Nat} {o0 o:Obj} (hk:S.get k=some o0) {b es cap:Nat} (hs:σ k=some (some b,es,cap)) {w':World}
 (hos:w'.os=w.os) (htape:w'.tape=w.tape) (hout:w'.output=w.output) (hsize:w'.heap.size=w.heap.size) (hother:∀j,j≠b→w'.heap[j]? =w.heap[j]?)
 (ho:bL σ S w n σ (S.set k o) w' n→jV (Own U σ (S.set k o)) w' σ (some (some b,es,cap)) o):
 bL σ S w n σ (S.set k o) w' n∧aS U σ (S.set k o) w' n:=by
 have hown:∀c,gB σ (S.set k o) c↔gB σ S c:=by
  intro c
  constructor
  ·rintro ⟨j,p,e1,c1,hj,hsj⟩
   rw [aC.get_set] at hj
   split at hj
   ·rename_i h;subst h;exact⟨j,o0,e1,c1,hk,hsj⟩
   ·exact⟨j,p,e1,c1,hj,hsj⟩
  ·rintro ⟨j,p,e1,c1,hj,hsj⟩
   by_cases h:j=k
   ·subst h;exact⟨j,o,e1,c1,by simp [aC.get_set],hsj⟩
   ·exact⟨j,p,e1,c1,by simp [aC.get_set,h,hj],hsj⟩
 have g:bL σ S w n σ (S.set k o) w' n:=
  ⟨⟨hos,htape,hout,by omega,fun c _ hc=>hother c fun h=>hc (h▸⟨k,o0,es,cap,hk,hs⟩)⟩,fun c _ h=>(hown c).1 h,fun _ _=>rfl,yJ _⟩
 refine⟨g,hR.step g (fun j hj=>?_) (fun j j' p p' c e1 c1 e2 c2 h1 h1' hs1 hs1'=>?_) fun j p hj=>?_⟩
 ·have hjk:j≠k:=by rintro rfl;rw [(hR.fresh j hj).1] at hk;cases hk
  rw [aC.get_set,if_neg hjk]
  exact hR.fresh j hj
 ·have f:∀j p,(S.set k o).get j=some p→∃q,S.get j=some q:=by
   intro j p hj
   rw [aC.get_set] at hj
   split at hj
   ·rename_i h;subst h;exact⟨o0,hk⟩
   ·exact⟨p,hj⟩
  obtain⟨q,hq⟩:=f j p h1
  obtain⟨q',hq'⟩:=f j' p' h1'
  exact hR.inj j j' q q' c e1 c1 e2 c2 hq hq' hs1 hs1'
 ·rw [aC.get_set] at hj
  split at hj
  ·rename_i h
   subst h
   obtain rfl:=Option.some.inj hj
   right;rw [hs];exact ho g
  ·rename_i h
   left
   refine⟨hj,fun c e1 c1 hs1=>hother c fun hcb=>h ?_⟩
   subst hcb
   exact hR.inj j k p o0 c e1 c1 es cap hj hk hs1 hs
end
end Go.Sk
namespace Go.Sk
open Go Go.RowKit
variable [fQ]
def lU(O:Nat→Prop)(w:World)(σ:Sg)(cs:List V)(arr:Array Value):Prop:=
 ∀(j:Nat) (y:V),cs[j]? =some y→∃u,arr[j]? =some u∧u.oneCell'=true∧VR O w σ y u
theorem lU.agg {O:Nat→Prop} {w:World} {σ:Sg} {cs:List V} {arr:Array Value} (h:lU O w σ cs arr)(hs:arr.size=cs.length):VR O w σ (.agg cs) (.agg arr):=
 .agg hs fun i y v hy hv=>by
  obtain⟨u,h1,-,h3⟩:=h i y hy
  rw [h1] at hv
  obtain rfl:=Option.some.inj hv
  exact h3
def aAH(z:List V):List (Nat×Nat×V)→Option (List V)
 | []=>some z
 | (off,sz,x)::r=>match x.cells? with
   |some cs=>if cs.length=sz∧off+sz≤z.length∧cs.all mT=true then aAH (z.take off++cs++z.drop (off+sz)) r else none
   |none=>none
theorem aDQ(vs:List Value):∀(off k:Nat) (cells:Array Value),((vs.zipIdx k).foldl (fun(cs:Array Value) (p:Value×Nat)=>cs.setIfInBounds (off+p.2) p.1) cells).size=cells.size:=by
 induction vs with
 |nil=>intro off k cells;rfl
 |cons v r ih=>intro off k cells;simp only [yO,List.foldl_cons,ih,Array.size_setIfInBounds]
theorem aE4(vs:List Value):∀(off k:Nat) (cells:Array Value),off+k+vs.length≤cells.size→∀j,((vs.zipIdx k).foldl (fun(cs:Array Value) (p:Value×Nat)=>cs.setIfInBounds (off+p.2) p.1) cells)[j]? =
 if off+k≤j∧j<off+k+vs.length then vs[j- (off+k)]? else cells[j]? :=by
 induction vs with
 |nil=>intro off k cells _ j;simp;omega
 |cons v r ih=>
  intro off k cells hle j
  simp only [zH] at hle
  simp only [yO,List.foldl_cons]
  rw [ih off (k+1) _ (by simp;omega) j]
  simp only [zH]
  by_cases h1:j=off+k
  ·subst h1
   rw [if_neg (by omega),if_pos (by omega),Array.getElem?_setIfInBounds_self_of_lt (by omega)]
   simp
  ·by_cases h2:off+k≤j∧j<off+k+(r.length+1)
   ·rw [if_pos (by omega),if_pos h2,show j- (off+k)=(j- (off+(k+1)))+1 by omega,zR]
   ·rw [if_neg (by omega),if_neg h2,Array.getElem?_setIfInBounds_ne (by omega)]
theorem aPF(vc:Array Value)(off:Nat)(cells:Array Value)(hle:off+vc.size≤cells.size):
 (vc.zipIdx.foldl (fun cs (c,j)=>cs.setIfInBounds (off+j) c) cells).size=cells.size∧
 ∀j,(vc.zipIdx.foldl (fun cs (c,j)=>cs.setIfInBounds (off+j) c) cells)[j]? =if off≤j∧j<off+vc.size then vc[j-off]? else cells[j]? :=by
 rw [←Array.foldl_toList,Array.toList_zipIdx]
 refine⟨aDQ vc.toList off 0 cells,fun j=>?_⟩
 have :=aE4 vc.toList off 0 cells (by simpa using hle) j
 simpa using this
theorem aG3 {O:Nat→Prop} {w:World} {σ:Sg} (place:Nat→Option (Nat×Nat)):∀(ps:List (Nat×Nat×V)) (vs:List (Nat×Value)) (z cs:List V) (arr:Array Value),
 arr.size=z.length→lU O w σ z arr→ps.length=vs.length→(∀(i:Nat) p v,ps[i]? =some p→vs[i]? =some v→place v.1=some (p.1,p.2.1)∧VR O w σ p.2.2 v.2)→aAH z ps=some cs→
 ∃arr',Instr.fill place arr vs=some arr'∧arr'.size=cs.length∧lU O w σ cs arr':=by
 intro ps
 induction ps with
 |nil=>
  intro vs z cs arr hs hf hl hp h
  cases vs with
  |nil=>simp only [aAH,Option.some.injEq] at h;subst h;exact⟨arr,rfl,hs,hf⟩
  |cons _ _=>simp at hl
 |cons p r ih=>
  intro vs z cs arr hs hf hl hp h
  cases vs with
  |nil=>simp at hl
  |cons v vr=>
   obtain⟨off,sz,x⟩:=p
   obtain⟨i,v⟩:=v
   obtain⟨hpl,hv⟩:=hp 0 _ _ rfl rfl
   simp only at hpl hv
   simp only [aAH] at h
   split at h
   ·rename_i xc hxc
    split at h
    ·rename_i hc
     obtain⟨hlen,hle,hone⟩:=hc
     obtain⟨hvs,hvc⟩:=qD hv hxc hone
     obtain⟨hsz',hget⟩:=aPF v.cells off arr (by omega)
     obtain⟨arr',h1,h2,h3⟩:=ih vr _ cs (v.cells.zipIdx.foldl (fun cs (c,j)=>cs.setIfInBounds (off+j) c) arr) (by rw [hsz'];simp;omega) (fun j y hy=>by
      rw [hget]
      have hz:(z.take off++xc++z.drop (off+sz))[j]? =if off≤j∧j<off+sz then xc[j-off]? else z[j]? :=by
       rw [yN,zL,yD,zL,zK,zP]
       have :min off z.length=off:=by omega
       rw [this]
       by_cases hj1:j<off
       ·rw [if_pos hj1,if_pos hj1,if_neg (by omega)]
       ·rw [if_neg hj1]
        by_cases hj2:j<off+sz
        ·rw [if_pos (by omega),if_pos (by omega)]
        ·rw [if_neg (by omega),if_neg (by omega)]
         congr 1;omega
      rw [hz] at hy
      by_cases hj:off≤j∧j<off+sz
      ·rw [if_pos hj] at hy
       rw [if_pos (by omega)]
       exact hvc _ _ hy
      ·rw [if_neg hj] at hy
       rw [if_neg (by omega)]
       exact hf _ _ hy) (by simpa using hl) (fun i p v hp' hv'=>hp (i+1) p v (by simpa using hp') (by simpa using hv')) h
     refine⟨arr',?_,h2,h3⟩
     simp only [Instr.fill,hpl]
     rw [if_neg]
     ·exact h1
     ·simp;omega
    ·cases h
   ·cases h
def kR(P:Program):List Field→Option (List (Nat×Nat))
 | []=>some []
 |f::r=>match bB P f.type,kR P r with
  |some n,some ns=>some ((f.offset,n)::ns)
  |_,_=>none
theorem aDN {P:Program} {w:World} :∀(l:List Field) (ns:List (Nat×Nat)),kR P l=some ns→
 (l.mapM (m:=Sem) fun f=>do pure (f.offset,←sizeOf f.type)).run P w=.ok ns w:=by
 intro l
 induction l with
 |nil=>intro ns h;simp only [kR,Option.some.injEq] at h;subst h;rfl
 |cons f r ih=>
  intro ns h
  simp only [kR] at h
  split at h
  ·rename_i h1 h2
   obtain rfl:=Option.some.inj h
   rw [List.mapM_cons]
   simp only [Sem.run_bind,bA h1,Result.andThen_ok,Sem.run_pure,ih _ h2]
  ·cases h
def qZ(pl:Nat→Option (Nat×Nat)):List (Nat×Operand)→Option (List (Nat×Nat×A))
 | []=>some []
 | (i,x)::r=>match pl i,bF x,qZ pl r with
   |some (off,sz),some a,some ps=>some ((off,sz,a)::ps)
   |_,_,_=>none
def zeroOf(P:Program)(t:TypeId):Option (List V):=
 match P.info? t with
 |some i=>match i.zero with
  |some z=>aJY z.cells.toList
  |none=>none
 |none=>none
def bD8(P:Program):Op→Option (List V×List (Nat×Nat×A))
 | .build t parts=>match zeroOf P t,P.underlying t with
   |some z,some (.struct fs)=>match kR P fs.toList with
    |some ns=>(qZ (ns[·]?) parts.toList).map fun ps=>(z,ps)
    |none=>none
   |some z,some (.array _ e)=>match bB P e with
    |some es=>(qZ (fun i=>some (i*es,es)) parts.toList).map fun ps=>(z,ps)
    |none=>none
   |_,_=>none
 |_=>none
theorem gA {P:Program} {t:TypeId} {z:List V} (h:zeroOf P t=some z):∃i zv,P.info? t=some i∧i.zero=some zv∧aJY zv.cells.toList=some z:=by
 unfold zeroOf at h
 split at h
 ·rename_i i hi
  split at h
  ·rename_i zv hz;exact⟨i,zv,hi,hz,h⟩
  ·cases h
 ·cases h
theorem uY {vs:List Value} {xs:List V} (h:aJY vs=some xs)(h1:xs.all mT=true)(O:Nat→Prop)(w:World)(σ:Sg):vs.length=xs.length∧∀(j:Nat) (y:V),xs[j]? =some y→∃u,vs[j]? =some u∧u.oneCell'=true∧VR O w σ y u:=by
 obtain⟨hl,hv⟩:=aHA h
 refine⟨hl.symm,fun j y hy=>?_⟩
 obtain⟨hj,-⟩:=List.getElem?_eq_some_iff.1 hy
 have hu:=zA (l:=vs) (i:=j) (by omega)
 have :=hv j y _ hy hu O w σ
 exact⟨_,hu,aDB this (List.all_eq_true.1 h1 y (zI hy)),this⟩
section
variable {P:Program} {U:Nat→Prop} {σ:Sg} {S:aC} {w:World} {n:Nat} {ρ:Operand→Value} {e:A→V}
theorem aDK(pl:Nat→Option (Nat×Nat)):∀(l:List (Nat×Operand)) (ps:List (Nat×Nat×A)),qZ pl l=some ps→(∀x a,bF x=some a→VR (Own U σ S) w σ (e a) (ρ x))→
 ps.length=l.length∧∀(i:Nat) p v,(ps.map fun p=>(p.1,p.2.1,e p.2.2))[i]? =some p→(l.map fun p=>(p.1,ρ p.2))[i]? =some v→pl v.1=some (p.1,p.2.1)∧VR (Own U σ S) w σ p.2.2 v.2:=by
 intro l
 induction l with
 |nil=>intro ps h _;simp only [qZ,Option.some.injEq] at h;subst h;simp
 |cons q r ih=>
  intro ps h he
  obtain⟨i,x⟩:=q
  simp only [qZ] at h
  split at h
  ·rename_i off sz a ps' h1 h2 h3
   obtain rfl:=Option.some.inj h
   obtain⟨hl,hp⟩:=ih ps' h3 he
   refine⟨by simp [hl],fun j p v hp' hv'=>?_⟩
   cases j with
   |zero=>
    simp only [List.map_cons,zC,Option.some.injEq] at hp' hv'
    subst hp' hv'
    exact⟨h1,he _ _ h2⟩
   |succ j=>exact hp j p v (by simpa using hp') (by simpa using hv')
  ·cases h
theorem aHO {o:Op} {z:List V} {ps:List (Nat×Nat×A)} (h:bD8 P o=some (z,ps))(hz1:z.all mT=true)(he:∀x a,bF x=some a→VR (Own U σ S) w σ (e a) (ρ x)) {cs:List V}
 (hf:aAH z (ps.map fun p=>(p.1,p.2.1,e p.2.2))=some cs):
 ∃cv,VR (Own U σ S) w σ (.agg cs) cv∧∀(w':World) (o':Oper),o'.op=o→(execOp ρ o').run P w'=.ok (.value cv) w':=by
 unfold bD8 at h
 split at h
 ·rename_i t parts
  split at h
  ·rename_i z' fs hz hu
   split at h
   ·rename_i ns hns
    simp only [zJ,Prod.mk.injEq] at h
    obtain⟨ps',hps,rfl,rfl⟩:=h
    obtain⟨i,zv,hi,hzero,hvs⟩:=gA hz
    obtain⟨hl,hp⟩:=aDK (ns[·]?) _ _ hps he
    obtain⟨hzl,hzf⟩:=uY hvs hz1 (Own U σ S) w σ
    obtain⟨arr',h1,h2,h3⟩:=aG3 (ns[·]?) _ (parts.toList.map fun p=>(p.1,ρ p.2)) z' cs zv.cells (by simpa using hzl) (fun j y hy=>by simpa using hzf j y hy) (by simp [hl]) hp hf
    refine⟨.agg arr',h3.agg h2,fun w' o' ho=>?_⟩
    have hm:(fs.mapM (m:=Sem) fun f=>do pure (f.offset,←sizeOf f.type)).run P w'=.ok ns.toArray w':=by
     rw [Array.mapM_eq_mapM_toList]
     simp only [Sem.run_map,aDN (P:=P) (w:=w') _ _ hns,Result.andThen_ok]
    have h1':Instr.fill (fun x=>(ns.toArray)[x]?) zv.cells (parts.map fun p=>(p.1,ρ p.2)).toList=some arr':=by simpa using h1
    simp only [execOp,ho,Instr.build,zeroValue,typeInfo,Sem.run_bind,run_program,hi,Result.andThen_ok,Sem.run_pure,hzero,run_underlying hu,hm]
    simp only [h1',Sem.run_pure,Result.andThen_ok]
   ·cases h
  ·rename_i z' m el hz hu
   split at h
   ·rename_i es hes
    simp only [zJ,Prod.mk.injEq] at h
    obtain⟨ps',hps,rfl,rfl⟩:=h
    obtain⟨i,zv,hi,hzero,hvs⟩:=gA hz
    obtain⟨hl,hp⟩:=aDK _ _ _ hps he
    obtain⟨hzl,hzf⟩:=uY hvs hz1 (Own U σ S) w σ
    obtain⟨arr',h1,h2,h3⟩:=aG3 (fun i=>some (i*es,es)) _ (parts.toList.map fun p=>(p.1,ρ p.2)) z' cs zv.cells (by simpa using hzl) (fun j y hy=>by simpa using hzf j y hy) (by simp [hl]) hp hf
    refine⟨.agg arr',h3.agg h2,fun w' o' ho=>?_⟩
    have h1':Instr.fill (fun i=>some (i*es,es)) zv.cells (parts.map fun p=>(p.1,ρ p.2)).toList=some arr':=by simpa using h1
    simp only [execOp,ho,Instr.build,zeroValue,typeInfo,Sem.run_bind,run_program,hi,Result.andThen_ok,Sem.run_pure,hzero,run_underlying hu,bA hes]
    simp only [h1',Sem.run_pure,Result.andThen_ok]
   ·cases h
  ·cases h
 ·cases h
end
end Go.Sk
namespace Go.Sk
open Go Go.RowKit
variable [fQ]
def spl:List V→Nat→List V→List V
 |l,_,[]=>l
 |l,c,v::r=>spl (l.set c v) (c+1) r
theorem aCY:∀(cs l:List V) (c:Nat),(spl l c cs).length=l.length
 | [],_,_=>rfl
 |v::r,l,c=>by simp only [spl,aCY r,yF]
theorem aN4:∀(cs l:List V) (c:Nat),c+cs.length≤l.length→∀j,(spl l c cs)[j]? =if c≤j∧j<c+cs.length then cs[j-c]? else l[j]?
 | [],l,c,_,j=>by simp [spl];omega
 |v::r,l,c,h,j=>by
  simp only [zH] at h
  simp only [spl,zH]
  rw [aN4 r (l.set c v) (c+1) (by simp;omega) j]
  by_cases h1:j=c
  ·subst h1
   rw [if_neg (by omega),if_pos (by omega),zS (by omega)]
   simp
  ·by_cases h2:c≤j∧j<c+(r.length+1)
   ·rw [if_pos (by omega),if_pos h2,show j-c=(j- (c+1))+1 by omega,zR]
   ·rw [if_neg (by omega),if_neg h2,zV (by omega)]
def aR(es:Nat)(l:List V)(c:Nat)(cs:List V):List V:=if c=0∧cs.length=es then cs else spl l c cs
theorem aAT {es:Nat} {l:List V} {c:Nat} {cs:List V} (hl:l.length=es)(h:c+cs.length≤es):(aR es l c cs).length=es∧∀j,(aR es l c cs)[j]? =if c≤j∧j<c+cs.length then cs[j-c]? else l[j]? :=by
 unfold aR
 split
 ·rename_i h0
  obtain⟨rfl,hc⟩:=h0
  refine⟨hc,fun j=>?_⟩
  by_cases hj:j<cs.length
  ·rw [if_pos (by omega)];simp
  ·rw [if_neg (by omega),yH (by omega),yH (by omega)]
 ·exact⟨by rw [aCY,hl],aN4 cs l c (by omega)⟩
def rU(es:Nat)(rows:List (List V)):List (Nat×V)→Option (List (List V))
 | []=>some rows
 | (i,x)::r=>match x.cells? with
   |some cs=>if cs.length=es∧i<rows.length∧cs.all bW=true then rU es (rows.set i cs) r else none
   |none=>none
theorem dP {es:Nat} :∀ {rows:List (List V)},(∀x∈rows,x.length=es)→rows.flatten.length=rows.length*es
 | [],_=>by simp
 |x::r,h=>by
  simp only [zQ,List.length_append,zH,zF,yC]
  rw [dP fun y hy=>h y (zW _ hy),h x (by simp)]
  omega
theorem eY {es:Nat} :∀ {rows:List (List V)},(∀x∈rows,x.length=es)→∀(i:Nat) (x:List V) (c:Nat) (y:V),rows[i]? =some x→x[c]? =some y→rows.flatten[i*es+c]? =some y
 | [],_,i,x,c,y,hx,_=>by simp at hx
 |r::rows,h,i,x,c,y,hx,hy=>by
  have hr:r.length=es:=h r (by simp)
  cases i with
  |zero=>
   simp only [zC,Option.some.injEq] at hx
   subst hx
   obtain⟨hc,-⟩:=List.getElem?_eq_some_iff.1 hy
   simp only [zQ,Nat.zero_mul,Nat.zero_add]
   rw [yA hc]
   exact hy
  |succ i=>
   simp only [zR] at hx
   simp only [zQ]
   rw [zZ (by rw [hr,zF];omega),hr]
   have :=eY (fun z hz=>h z (zW _ hz)) i x c y hx hy
   rw [show(i+1)*es+c-es=i*es+c by rw [zF];omega]
   exact this
theorem aAK {es:Nat} :∀ {rows:List (List V)},(∀x∈rows,x.length=es)→∀(i:Nat) (cs:List V),i<rows.length→cs.length=es→(rows.set i cs).flatten=rows.flatten.take (i*es)++cs++rows.flatten.drop (i*es+es)
 | [],_,i,cs,hi,_=>by simp at hi
 |r::rows,h,i,cs,hi,hc=>by
  have hr:r.length=es:=h r (by simp)
  cases i with
  |zero=>simp [hr]
  |succ i=>
   simp only [List.set_cons_succ,zQ]
   rw [aAK (fun z hz=>h z (zW _ hz)) i cs (by simpa using hi) hc]
   rw [List.take_append,List.drop_append,hr]
   have e1:(i+1)*es-es=i*es:=by rw [zF];omega
   have e2:(i+1)*es+es-es=i*es+es:=by rw [zF];omega
   rw [e1,e2,List.take_of_length_le (l:=r) (by rw [hr,zF];omega),List.drop_eq_nil_of_le (as:=r) (by rw [hr,zF];omega)]
   simp
theorem aC5 {O:Nat→Prop} {w:World} {σ:Sg} {x:V} {v:Value} {cs:List V} (h:VR O w σ x v)(hc:x.cells?=some cs)(h1:cs.all bW=true):VR O w (fun _=>none) x v:=by
 have key:∀y∈cs,bW y=true:=List.all_eq_true.1 h1
 by_cases ha:∃cs',x=.agg cs'
 ·obtain⟨cs',rfl⟩:=ha
  simp only [V.cells?,Option.some.injEq] at hc
  subst hc
  cases h with
  |agg hn h=>exact .agg hn fun i y u hy hu=>aU (h i y u hy hu) (key y (zI hy))
 ·unfold V.cells? at hc
  split at hc
  ·exact absurd ⟨_,rfl⟩ ha
  ·split at hc
   ·obtain rfl:=Option.some.inj hc
    exact aU h (key x (by simp))
   ·cases hc
theorem oH {cs:List V} (h:cs.all bW=true):cs.all mT=true:=List.all_eq_true.2 fun y hy=>aL3 (List.all_eq_true.1 h y hy)
theorem aLW {O:Nat→Prop} {w:World} {σ:Sg} {es:Nat} :∀(ps:List (Nat×V)) (vs:List (Nat×Value)) (rows rows':List (List V)) (arr:Array Value),(∀x∈rows,x.length=es)→
 arr.size=rows.length*es→lU O w (fun _=>none) rows.flatten arr→ps.length=vs.length→(∀(i:Nat) p v,ps[i]? =some p→vs[i]? =some v→v.1=p.1∧VR O w σ p.2 v.2)→rU es rows ps=some rows'→
 (∀x∈rows',x.length=es)∧rows'.length=rows.length∧∃arr',Instr.fill (fun i=>some (i*es,es)) arr vs=some arr'∧arr'.size=rows'.length*es∧lU O w (fun _=>none) rows'.flatten arr':=by
 intro ps
 induction ps with
 |nil=>
  intro vs rows rows' arr hes hs hf hl hp h
  cases vs with
  |nil=>simp only [rU,Option.some.injEq] at h;subst h;exact⟨hes,rfl,arr,rfl,hs,hf⟩
  |cons _ _=>simp at hl
 |cons p r ih=>
  intro vs rows rows' arr hes hs hf hl hp h
  cases vs with
  |nil=>simp at hl
  |cons v vr=>
   obtain⟨i,x⟩:=p
   obtain⟨i',v⟩:=v
   obtain⟨rfl,hv⟩:=hp 0 _ _ rfl rfl
   simp only at hv
   simp only [rU] at h
   split at h
   ·rename_i xc hxc
    split at h
    ·rename_i hc
     obtain⟨hlen,hle,hflat⟩:=hc
     have hv0:=aC5 hv hxc hflat
     have hmul:i'*es+es≤rows.length*es:=by
      have :=zM es (show i'+1≤rows.length by omega)
      rw [zF,yC] at this;exact this
     have hone:=aG3 (fun i=>some (i*es,es)) [(i'*es,es,x)] [(i',v)] rows.flatten ((rows.set i' xc).flatten) arr (by rw [hs,dP hes]) hf rfl (fun j p u hp hu=>by
      cases j with
      |zero=>simp only [zC,Option.some.injEq] at hp hu;subst hp hu;exact⟨rfl,hv0⟩
      |succ j=>simp at hp) (by
      simp only [aAH,hxc]
      rw [if_pos ⟨hlen,by rw [dP hes];exact hmul,oH hflat⟩,aAK hes i' xc hle hlen])
     obtain⟨arr1,h1,h2,h3⟩:=hone
     have hes':∀y∈rows.set i' xc,y.length=es:=fun y hy=>by
      rcases yB hy with h |h
      ·exact hes y h
      ·rw [h];exact hlen
     obtain⟨a1,a2,arr',a3,a4,a5⟩:=ih vr (rows.set i' xc) rows' arr1 hes' (by rw [h2,dP hes']) h3 (by simpa using hl) (fun i p v hp' hv'=>hp (i+1) p v (by simpa using hp') (by simpa using hv')) h
     refine⟨a1,by rw [a2,yF],arr',?_,a4,a5⟩
     simp only [Instr.fill] at h1⊢
     split at h1
     ·cases h1
     ·rename_i hcond
      rw [if_neg hcond]
      obtain rfl:=Option.some.inj h1
      exact a3
    ·cases h
   ·cases h
def aOJ(S:aC):V→Option (Nat×Nat×List (List V))
 | .lst es _ xs=>some (es,xs.length,xs)
 | .sl k off len=>match S.get k with
   |some (.row es xs)=>some (es,len,(xs.drop off).take len)
   |_=>none
 | .val (.slice _ 0 _)=>some (0,0,[])
 |_=>none
def aJT(S:aC)(x:V):Option (Nat×Nat×List (List V)):=aOJ S (tK x)
def aUI(P:Program):Op→Option I
 | .alloc t=>match zeroOf P t with
   |some z=>if z.all mT=true then some (.alloc z) else none
   |none=>none
 | .box _ x=>(bF x).map .box
 | .store t a x=>match bB P t,bF a,bF x with
   |some m,some a,some x=>some (.st m a x)
   |_,_,_=>none
 | .buildSlice t m parts=>match P.underlying t with
   |some (.slice el)=>match bB P el,zeroOf P el,qZ (fun i=>some (i,0)) parts.toList with
    |some es,some z,some ps=>if m*es≤16777216∧z.length=es∧0<es∧z.all bW=true then some (.bslice es z m (ps.map fun p=>(p.1,p.2.2))) else none
    |_,_,_=>none
   |_=>none
 | .makeSlice t l c=>match P.underlying t,bF l,bF c with
   |some (.slice el),some l,some c=>match P.info? el,zeroOf P el with
    |some i,some z=>if z.length=i.size∧0<i.size∧z.all bW=true then some (.mk i.size i.bytes z l c) else none
    |_,_=>none
   |_,_,_=>none
 | .makeMap t none=>match P.underlying t with
   |some (.map kt _)=>match P.underlying kt with
    |some (.struct _)=>some (.mkmap 2)
    |_=>some (.mkmap 1)
   |_=>none
 | .slice t x none hi none=>match P.underlying t,bF x with
   |some (.array n el),some x=>match bB P el,hi with
    |some 1,none=>some (.aslc n x none)
    |some 1,some h=>(bF h).map fun h=>.aslc n x (some h)
    |_,_=>none
   |_,_=>none
 | .convert s d x=>match P.underlying s,P.underlying d,bF x with
   |some .string,some (.slice e),some x=>match P.underlying e with
    |some (.int .u8)=>some (.s2b x)
    |_=>none
   |_,_,_=>none
 | .mapUpdate t m k x=>match P.underlying t,bF m,bF k,bF x with
   |some (.map kt _),some m,some k,some x=>match P.underlying kt with
    |some (.int .i64)=>some (.mput m k x)
    |some (.struct fs)=>if aDC P kt fs=true then some (.mputp m k x) else none
    |_=>none
   |_,_,_,_=>none
 | .call { callee:=.builtin .append,args,argTypes } =>match args.toList,argTypes.toList with
   | [x,y],[t,u]=>match P.underlying t,P.underlying u,bF x,bF y with
     |some (.slice el),some (.slice _),some x,some y=>match P.info? el,zeroOf P el with
      |some i,some z=>if z.length=i.size∧0<i.size then some (.app i.size i.bytes x y) else none
      |_,_=>none
     |_,_,_,_=>none
   |_,_=>none
 | .call { callee:=.builtin .clear,args,argTypes } =>match args.toList,argTypes.toList with
   | [x],[t]=>match P.underlying t,bF x with
     |some (.slice el),some x=>match bB P el,zeroOf P el with
      |some es,some z=>if z.length=es∧0<es∧z.all bW=true then some (.clr es z x) else none
      |_,_=>none
     |_,_=>none
   |_,_=>none
 | .call { callee:=.builtin .copy,args,argTypes } =>match args.toList,argTypes.toList with
   | [x,y],[t,u]=>match P.underlying t,P.underlying u,bF x,bF y with
     |some (.slice el),some (.slice _),some x,some y=>match bB P el with
      |some es=>if 0<es then some (.cpy es x y) else none
      |none=>none
     |some (.slice el),some .string,some x,some y=>match bB P el with
      |some 1=>some (.cpys x y)
      |_=>none
     |_,_,_,_=>none
   |_,_=>none
 |_=>none
def mO(S:aC)(n:Nat)(i:I)(e:A→V)(K:V→aC→Nat→Prop):Prop:=
 match i with
 | .alloc z=>K (.ptr n 0 0) (S.set n (.box z)) (n+1)
 | .box x=>match(e x).cells? with
   |some cs=>cs.all mT=true∧K (.ptr n 0 0) (S.set n (.box cs)) (n+1)
   |none=>False
 | .st m x y=>match e x,(e y).cells? with
   | .ptr k i c,some cs=>match S.get k with
     |some (.row es xs)=>i<xs.length∧c+m≤es∧cs.length=m∧cs.all bW=true∧K .any (S.set k (.row es (xs.set i (aR es (xs.getD i []) c cs)))) n
     |some (.box bs)=>i=0∧c+m≤bs.length∧cs.length=m∧cs.all mT=true∧K .any (S.set k (.box (aR bs.length bs c cs))) n
     |some (.bb l)=>match cs with
      | [.int .u8 v]=>(m=1∧c=0)∧i<l.length∧(0≤v∧v<256)∧K .any (S.set k (.bb (l.set i (UInt8.ofNat v.toNat)))) n
      |_=>False
     |_=>False
   |_,_=>False
 | .s2b x=>match e x with
   | .str s=>s.size≤9223372036854775807∧K (.sl n 0 s.size) (S.set n (.bb s.data.toList)) (n+1)
   |_=>False
 | .aslc len x hi=>match e x with
   | .ptr k 0 0=>match S.get k with
     |some (.box cs)=>match(match hi with |none=>V.int .i64 (len:Int)|some h=>e h) with
      | .int _ h=>(cs.length=len∧cs.all bW=true∧0≤h∧h≤(len:Int))∧K (.lst 1 false ((cs.take h.toNat).map fun c=> [c])) (S.del k) n
      |_=>False
     |_=>False
   |_=>False
 | .cpys x y=>match e y,tK (e x) with
   | .str s,.sl k off len=>match S.get k with
     |some (.row 1 xs)=>off+len≤xs.length∧
      K (.int .i64 (min s.size len:Nat)) (S.set k (.row 1 (xs.take off++(cJ s.data.toList).take (min s.size len)++xs.drop (off+min s.size len)))) n
     |some (.bb l)=>off+len≤l.length∧
      K (.int .i64 (min s.size len:Nat)) (S.set k (.bb (l.take off++s.data.toList.take (min s.size len)++l.drop (off+min s.size len)))) n
     |_=>False
   |_,_=>False
 | .mkmap ks=>K (.mp n) (S.set n (.mp (ks,[]))) (n+1)
 | .mput x i y=>match e x,e i with
   | .mp k,.int .i64 j=>match S.get k with
     |some (.mp (1,xs))=>bW (e y)=true∧K .any (S.set k (.mp (1,fW xs [j] (e y)))) n
     |_=>False
   |_,_=>False
 | .mputp x i y=>match e x,e i with
   | .mp k,.agg [.int .i64 a,.int .i64 b]=>match S.get k with
     |some (.mp (2,xs))=>bW (e y)=true∧K .any (S.set k (.mp (2,fW xs [a,b] (e y)))) n
     |_=>False
   |_,_=>False
 | .bslice es z m ps=>match rU es (zE m z) (ps.map fun p=>(p.1,e p.2)) with
   |some rows=>K (.sl n 0 m) (S.set n (.row es rows)) (n+1)
   |none=>False
 | .mk es bytes z l c=>match e l,e c with
   | .int _ l,.int _ c=>0≤l∧l≤c∧(bytes:Int)*c≤281474976710656∧c≤9223372036854775807∧K (.slk n 0 l.toNat c.toNat) (S.set n (.row es (zE l.toNat z))) (n+1)
   |_,_=>False
 | .app es bytes x y=>match aJT S (e y) with
   |some (es',len',ys)=>(es'=es∨ys=[])∧ys.length=len'∧match tK (e x) with
    | .lst _ true []=>(ys.length:Int)≤9223372036854775807∧ys.length*bytes≤140737488355328∧K (.sl n 0 ys.length) (S.set n (.row es ys)) (n+1)
    | .sl k off len=>match S.get k with
      |some (.row es2 xs)=>es2=es∧off=0∧len=xs.length∧((xs.length+ys.length:Nat):Int)≤9223372036854775807∧(xs.length+ys.length)*bytes≤140737488355328∧
       K (.sl n 0 (xs.length+ys.length)) ((S.del k).set n (.row es (xs++ys))) (n+1)
      |_=>False
    | .slx k off len=>match S.get k with
      |some (.row es2 xs)=>es2=es∧off=0∧len≤xs.length∧((len+ys.length:Nat):Int)≤9223372036854775807∧(len+ys.length)*bytes≤140737488355328∧
       K (.sl n 0 (len+ys.length)) ((S.del k).set n (.row es (xs.take len++ys))) (n+1)
      |_=>False
    |_=>False
   |none=>False
 | .clr es z x=>match tK (e x) with
   | .sl k off len=>match S.get k with
     |some (.row es2 xs)=>es2=es∧off+len≤xs.length∧K (.tup []) (S.set k (.row es (xs.take off++zE len z++xs.drop (off+len)))) n
     |_=>False
   |_=>False
 | .cpy es x y=>match aJT S (e y),tK (e x) with
   |some (es',len',ys),.sl k off len=>match S.get k with
    |some (.row es2 xs)=>(es'=es∨ys=[])∧ys.length=len'∧es2=es∧off+len≤xs.length∧
     K (.int .i64 (min ys.length len:Nat)) (S.set k (.row es (xs.take off++ys.take (min ys.length len)++xs.drop (off+min ys.length len)))) n
    |_=>False
   |_,_=>False
 |_=>False
def oG(P:Program)(U:Nat→Prop)(σ:Sg)(S:aC)(w:World)(n m:Nat)(ρ:Operand→Value)(o:Op)(K:V→aC→Nat→Prop):Prop:=
 ∃v S' n',K v S' n'∧∀(o':Oper),o'.op=o→∃nx cv w' σ',(execOp ρ o').run P w=.ok nx w'∧(nx=.value cv∨(nx=.skip∧cv=undef))∧(∀k,k≠m→σ' k=σ k)∧bL σ S w n σ' S' w' (max n n')∧aS U σ' S' w' (max n n')∧VR (Own U σ' S') w' σ' v cv
section
variable {P:Program} {U:Nat→Prop} {σ:Sg} {S:aC} {w:World} {n m:Nat} {ρ:Operand→Value} {e:A→V} {K:V→aC→Nat→Prop}
theorem aV6 {t:TypeId} {z:List V} (hz:zeroOf P t=some z)(h1:z.all mT=true)(hR:aS U σ S w n)(hfree:S.get m=none∧σ m=none)(hK:mO S m (.alloc z) e K):oG P U σ S w n m ρ (.alloc t) K:=by
 obtain⟨i,zv,hi,hzero,hvs⟩:=gA hz
 obtain⟨hl,hf⟩:=uY hvs h1 (Own U σ S) w σ
 obtain⟨g,r⟩:=hR.new_box hfree (kP.alloc w zv.cells t) (cs:=z) (by simpa using hl) (fun i y hy=>by simpa using hf i y hy)
 refine⟨_,_,_,hK,fun o' ho=>⟨_,.pointer (some ⟨w.heap.size,0,none⟩),_,_,?_,.inl rfl,(by intro k hk;first |rfl |exact Sg.put_other _ _ hk),g,r,?_⟩⟩
 ·simp [execOp,ho,Instr.alloc,zeroValue,typeInfo,hi,hzero,newVar,newRow]
 ·have :=VR.ptr (O:=Own U (σ.put m (some w.heap.size,z.length,1)) (S.set m (.box z))) (w:=w.alloc (.cells zv.cells t)) (i:=0) (c:=0) (Sg.put_same σ m (some w.heap.size,z.length,1))
  simpa using this
theorem bDO {t:TypeId} {x:Operand} {a:A} (hx:VR (Own U σ S) w σ (e a) (ρ x))(hR:aS U σ S w n)(hfree:S.get m=none∧σ m=none)(hK:mO S m (.box a) e K):oG P U σ S w n m ρ (.box t x) K:=by
 simp only [mO] at hK
 split at hK
 ·rename_i cs hcs
  obtain⟨h1,hK⟩:=hK
  obtain⟨hl,hf⟩:=qD hx hcs h1
  obtain⟨g,r⟩:=hR.new_box hfree (kP.alloc w (ρ x).cells t) (cs:=cs) hl hf
  refine⟨_,_,_,hK,fun o' ho=>⟨_,.pointer (some ⟨w.heap.size,0,none⟩),_,_,?_,.inl rfl,(by intro k hk;first |rfl |exact Sg.put_other _ _ hk),g,r,?_⟩⟩
  ·simp [execOp,ho,Instr.box,newVar,newRow]
  ·have :=VR.ptr (O:=Own U (σ.put m (some w.heap.size,cs.length,1)) (S.set m (.box cs))) (w:=w.alloc (.cells (ρ x).cells t)) (i:=0) (c:=0) (Sg.put_same σ m (some w.heap.size,cs.length,1))
   simpa using this
 ·cases hK
theorem aK2 {t:TypeId} {ks:Nat} (hR:aS U σ S w n)(hfree:S.get m=none∧σ m=none)(hK:mO S m (.mkmap ks) e K):oG P U σ S w n m ρ (.makeMap t none) K:=by
 obtain⟨g,r⟩:=hR.new_map ks hfree
 exact⟨_,_,_,hK,fun o' ho=>⟨_,.map (some w.heap.size),_,_,(by simp only [execOp,ho,Option.map_none,Sem.run_bind,run_makeMap,Result.andThen_ok];rfl),.inl rfl,(by intro k hk;first |rfl |exact Sg.put_other _ _ hk),g,r,.mp (Sg.put_same σ m _)⟩⟩
theorem aK3 {t kt el:TypeId} {x i y:Operand} {c:A} {key:List Int} {k:Nat} {xs:List (List Int×V)} {vx:Value} (ht:P.underlying t=some (.map kt el))(hL:KeyLaw P kt key)(hvx:ρ x=vx)(hx:VR (Own U σ S) w σ (.mp k) vx)(hi:ρ i=uF key)(hy:VR (Own U σ S) w σ (e c) (ρ y))
 (hR:aS U σ S w n) (hmn:m≤n) (ho:S.get k=some (.mp (key.length,xs))) (hfl:bW (e c)=true) {K:V→aC→Nat→Prop} (hK:K .any (S.set k (.mp (key.length,fW xs key (e c)))) m):oG P U σ S w n m ρ (.mapUpdate t x i y) K:=by
 have hmx:max n m=n:=by omega
 cases hx with
 | @mp _ k bl es0 cap hs=>
   have hob:=hR.obj k _ ho
   rw [hs] at hob
   obtain⟨b',hl,es,ck,hh,hsz,hent⟩:=hob
   simp only [Option.some.injEq,Prod.mk.injEq] at hl
   obtain⟨rfl,rfl,rfl⟩:=hl
   have hbl:bl<w.heap.size:=(Array.getElem?_eq_some_iff.1 hh).1
   have hyf:=aU hy hfl
   have keyr:∃es' ck',(Instr.mapUpdate t (.map (some bl)) (uF key) (ρ y)).run P w=.ok () { w with heap:=w.heap.setIfInBounds bl (.map es' ck') } ∧es'.size=(fW xs key (e c)).length∧
    ∀(i:Nat) (p:List Int×V),(fW xs key (e c))[i]? =some p→∃en,es'[i]? =some en∧(p.1.length=key.length∧en.key=uF p.1)∧VR (Own U σ S) w (fun _=>none) p.2 en.val:=by
    rcases hL.find (Own U σ S) w .any es.toList xs (by simpa using hsz) (fun i p hp=>by simpa using hent i p hp) with ⟨q1,-,-,q4⟩| ⟨idx,val,q1,-,-,q4,q5,q6⟩
    ·refine⟨es.push { key:=uF key,val:=ρ y,born:=ck },ck+1,?_,by rw [q4];simp [hsz],fun i p hp=>?_⟩
     ·unfold Instr.mapUpdate
      simp only [Sem.run_bind,run_underlying ht,Result.andThen_ok,MapKept.run_getObj_map hh,Sem.run_pure,hL.chk,q1,MapKept.run_setObj_map _ hh]
     ·rw [q4,zL] at hp
      split at hp
      ·rename_i hlt
       obtain⟨en,h1,h2,h3⟩:=hent i p hp
       exact⟨en,by rw [zN,if_neg (by dsimp only at hsz;omega)];exact h1,h2,h3⟩
      ·rename_i hlt
       have hi0:i=xs.length:=by
        have :=(List.getElem?_eq_some_iff.1 hp).1
        simp at this;omega
       subst hi0
       simp only [Nat.sub_self,zC,Option.some.injEq] at hp
       subst hp
       exact⟨_,by rw [zN,if_pos hsz.symm],⟨rfl,rfl⟩,hyf⟩
    ·obtain⟨en0,e1,⟨-,e2⟩,-⟩:=hent idx xs[idx] (zA q4)
     have hkey:en0.key=uF key:=by rw [e2,q5 _ (zA q4)]
     refine⟨es.modify idx fun en=> { en with key:=uF key,val:=ρ y },ck,?_,by rw [q6];simp [hsz],fun i p hp=>?_⟩
     ·unfold Instr.mapUpdate
      simp only [Sem.run_bind,run_underlying ht,Result.andThen_ok,MapKept.run_getObj_map hh,Sem.run_pure,hL.chk,q1]
      rw [e1]
      simp only [yQ,yE,hkey,hL.stay,Result.andThen_ok,MapKept.run_setObj_map _ hh]
     ·rw [q6,List.getElem?_set] at hp
      rw [Array.getElem?_modify]
      split at hp
      ·rename_i hii
       subst hii
       simp only [q4,if_true,Option.some.injEq] at hp
       subst hp
       rw [if_pos rfl,e1]
       exact⟨_,rfl,⟨rfl,rfl⟩,hyf⟩
      ·rename_i hii
       rw [if_neg hii]
       exact hent i p hp
   obtain⟨es',ck',hrun,hsz',hent'⟩:=keyr
   obtain⟨hset1,hset2⟩:=MapKept.heap_set (o':=.map es' ck') hh
   obtain⟨g,r⟩:=hR.write (o:=.mp (key.length,fW xs key (e c))) ho hs (w':= { w with heap:=w.heap.setIfInBounds bl (.map es' ck') }) rfl rfl rfl (by simp) (fun j hj=>hset2 j hj) (fun g=>
    ⟨bl,rfl,es',ck',hset1,hsz',fun i p hp=>by
     obtain⟨en,h1,h2,h3⟩:=hent' i p hp
     exact⟨en,h1,h2,h3.mono (g.keepU U) (g.ownU U) fun _ _=>rfl⟩⟩)
   exact⟨_,_,_,hK,fun o' ho'=>⟨_,undef,_,σ,by simp only [execOp,ho',hvx,hi,Sem.run_bind,hrun,Result.andThen_ok];rfl,.inr ⟨rfl,rfl⟩,fun _ _=>rfl,by rw [hmx];exact g,by rw [hmx];exact r,.any _⟩⟩
theorem aYP {t kt el:TypeId} {x i y:Operand} {a b c:A} (ht:P.underlying t=some (.map kt el))(hk:P.underlying kt=some (.int .i64))(hx:VR (Own U σ S) w σ (e a) (ρ x))(hi:VR (Own U σ S) w σ (e b) (ρ i))(hy:VR (Own U σ S) w σ (e c) (ρ y))
 (hR:aS U σ S w n) (hmn:m≤n) (hK:mO S m (.mput a b c) e K):oG P U σ S w n m ρ (.mapUpdate t x i y) K:=by
 simp only [mO] at hK
 split at hK
 ·rename_i k j hea heb
  rw [hea] at hx
  rw [heb] at hi
  split at hK
  ·rename_i xs ho
   refine aK3 ht (KeyLaw.int hk j) rfl hx ?_ hy hR hmn ho hK.1 hK.2
   generalize ρ i=vi at hi
   cases hi;rfl
  ·cases hK
 ·cases hK
theorem aV7 {t kt el:TypeId} {fs:Array Field} {x i y:Operand} {a b c:A} (ht:P.underlying t=some (.map kt el))(hk:P.underlying kt=some (.struct fs))(hp:aDC P kt fs=true)(hx:VR (Own U σ S) w σ (e a) (ρ x))(hi:VR (Own U σ S) w σ (e b) (ρ i))(hy:VR (Own U σ S) w σ (e c) (ρ y))
 (hR:aS U σ S w n) (hmn:m≤n) (hK:mO S m (.mputp a b c) e K):oG P U σ S w n m ρ (.mapUpdate t x i y) K:=by
 simp only [mO] at hK
 split at hK
 ·rename_i k p q hea heb
  rw [hea] at hx
  rw [heb] at hi
  split at hK
  ·rename_i xs ho
   exact aK3 ht (KeyLaw.pair hk hp p q) rfl hx (aNZ hi) hy hR hmn ho hK.1 hK.2
  ·cases hK
 ·cases hK
theorem mL(g o:Nat)(t:TypeId)(fr:Nat×Nat):∀(vs:List Value) (i:Nat) (cur:Array Value) (w:World),w.heap[g]? =some (.cells cur t fr)→(∀j,j<cur.size→¬(fr.1≤j∧j<fr.2))→o+i+vs.length≤cur.size→(∀v∈vs,v.oneCell'=true)→
 (storeCells ⟨g,o,none⟩ vs i).run P w=.ok () (w.setRow g (cur.toList.take (o+i)++vs++cur.toList.drop (o+i+vs.length)).toArray)
 | [],i,cur,w,hg,_,_,_=>by
   simp only [storeCells,List.append_nil,zX,Nat.add_zero,List.take_append_drop,zU]
   rw [setRow_self w g cur t fr hg]
   rfl
 |v::rest,i,cur,w,hg,hfr,hl,h1=>by
  have hi:o+i<cur.size:=by simp at hl;omega
  have hadd:(⟨g,o,none⟩:Addr).add i=⟨g,o+i,none⟩:=by unfold Addr.add;split <;> simp_all
  have hcell:w.cell? ⟨g,o+i,none⟩=some cur[o+i]:=by simp [World.cell?,hg,hi]
  have hfro:w.frozen? ⟨g,o+i,none⟩=false:=by
   have :=hfr (o+i) hi
   simp only [World.frozen?,hg]
   simp only [Bool.and_eq_false_iff,decide_eq_false_iff_not]
   by_cases h:fr.1≤o+i
   ·exact .inr fun h2=>this ⟨h,h2⟩
   ·exact .inl h
  have hst:(store ((⟨g,o,none⟩:Addr).add i) v).run P w=.ok () (w.setRow g (cur.setIfInBounds (o+i) v)):=by
   rw [hadd,run_store P w _ v _ (h1 v (by simp)),hcell]
   simp [hfro,setCell_eq_setRow w g (o+i) cur t fr v hg]
  have ih:=mL g o t fr rest (i+1) (cur.setIfInBounds (o+i) v) (w.setRow g (cur.setIfInBounds (o+i) v)) (setRow_heap w g cur _ t _ hg) (fun j hj=>hfr j (by simpa using hj)) (by simp at hl⊢;omega) (fun x hx=>h1 x (by simp [hx]))
  simp only [storeCells,Sem.run_bind,hst,Result.andThen_ok,ih,setRow_setRow]
  congr 3
  have e:=list_seg_step cur.toList (o+i) v rest (by simp at hl⊢;omega)
  simpa [Array.toList_setIfInBounds,yM] using e
theorem rO(b:Bool)(n j:Nat)(h:j<n):¬((mkF b n).1≤j∧j< (mkF b n).2):=fun h=>yG _ h.2
theorem dL {g o:Nat} {ty:TypeId} {fr:Nat×Nat} {cur:Array Value} (vs:Array Value)(hg:w.heap[g]? =some (.cells cur ty fr))(hfr:∀j,j<cur.size→¬(fr.1≤j∧j<fr.2))(hle:o+vs.size≤cur.size)(h1:∀v∈vs.toList,v.oneCell'=true):
 ∃arr',(storeCells ⟨g,o,none⟩ vs.toList).run P w=.ok () (w.setRow g arr')∧arr'.size=cur.size∧∀j,arr'[j]? =if o≤j∧j<o+vs.size then vs[j-o]? else cur[j]? :=by
 have :=mL (P:=P) g o ty fr vs.toList 0 cur w hg hfr (by simpa using hle) h1
 refine⟨_,this,by simp;omega,fun j=>?_⟩
 simp only [Nat.add_zero,List.getElem?_toArray,zO]
 rw [yN,zL,yD,zL,zK,zP]
 have :min o cur.toList.length=o:=by simp;omega
 rw [this]
 simp only [zO,yI]
 by_cases hj1:j<o
 ·rw [if_pos hj1,if_pos hj1,if_neg (by omega)]
 ·rw [if_neg hj1]
  by_cases hj2:j<o+vs.size
  ·rw [if_pos (by omega),if_pos (by omega)]
  ·rw [if_neg (by omega),if_neg (by omega)]
   congr 1;omega
theorem aPS {i i' es c c' m:Nat} (hne:i'≠i)(h1:c+m≤es)(h2:c'<es):¬(i*es+c≤i'*es+c'∧i'*es+c'<i*es+c+m):=by
 rcases Nat.lt_or_gt_of_ne hne with h |h
 ·have :=zM es (show i'+1≤i by omega)
  rw [zF,yC] at this
  omega
 ·have :=zM es (show i+1≤i' by omega)
  rw [zF,yC] at this
  omega
theorem aV9 {t:TypeId} {mm:Nat} {x y:Operand} {a b:A} (hm:bB P t=some mm)(hx:VR (Own U σ S) w σ (e a) (ρ x))(hy:VR (Own U σ S) w σ (e b) (ρ y))(hR:aS U σ S w n)
 (hK:mO S m (.st mm a b) e K) (hmn:m≤n):oG P U σ S w n m ρ (.store t x y) K:=by
 have hmx:max n m=n:=by omega
 have run:∀(bl o:Nat) (w':World),ρ x=.pointer (some ⟨bl,o,none⟩)→(ρ y).cells.size=mm→(storeCells ⟨bl,o,none⟩ (ρ y).cells.toList).run P w=.ok () w'→
  ∀(o':Oper),o'.op=.store t x y→(execOp ρ o').run P w=.ok .skip w':=by
  intro bl o w' h1 h2 h3 o' ho
  simp only [execOp,ho,Instr.storeAt,h1,Instr.sureAddr,storeVar,Sem.run_bind,pure_bind,bA hm,Result.andThen_ok,h2,ne_eq,not_true_eq_false,if_false,h3,Sem.run_pure]
 simp only [mO] at hK
 split at hK
 ·rename_i k i c cs h1 h2
  rw [h1] at hx
  generalize hva:ρ x=va at hx
  cases hx with
  | @ptr _ _ _ _ bl es cap hs=>
    split at hK
    ·rename_i es' xs ho
     obtain⟨hi,hle,hlen,hflat,hK⟩:=hK
     have hob:=hR.obj k _ ho
     rw [hs] at hob
     obtain⟨hes,rfl,hcap,arr,ty,hh,hsz,hcells⟩:=hob
     have hy0:=aC5 hy h2 hflat
     obtain⟨hvs,hvc⟩:=qD hy0 h2 (oH hflat)
     have hxi:(xs.getD i []).length=es:=by
      simp only [zD,zA hi,yE]
      exact hes _ (yP hi)
     have hmul:i*es+es≤cap*es:=by
      have :=zM es (show i+1≤cap by omega)
      rw [zF,yC] at this;exact this
     obtain⟨arr',hst,hsz',hget⟩:=dL (P:=P) (o:=i*es+c) (ρ y).cells hh (rO _ _) (by omega) (fun v hv=>by
      obtain⟨j,hj,rfl⟩:=zY hv
      simp only [zO] at hj
      obtain⟨u,hu1,hu2,-⟩:=hvc j _ (zA (by omega:j<cs.length))
      rw [zG hj] at hu1
      obtain rfl:=Option.some.inj hu1
      simpa using hu2)
     obtain⟨hpl,hpg⟩:=aAT (cs:=cs) (c:=c) hxi (by omega)
     obtain⟨g,r⟩:=hR.write (o:=.row es (xs.set i (aR es (xs.getD i []) c cs))) ho hs (w':=w.setRow bl arr') rfl rfl rfl (by simp) (fun j hj=>setRow_other w bl j arr' hj) (fun g=>by
      refine⟨fun z hz=>?_,rfl,by simpa using hcap,arr',ty,by rw [hsz'];exact setRow_heap w bl arr arr' ty.1 _ hh,by omega,fun i' x c' y hx' hy'=>?_⟩
      ·rcases yB hz with h |h
       ·exact hes z h
       ·rw [h];exact hpl
      ·have g0:∀ {x v},VR (Own U σ S) w (fun _=>none) x v→VR (Own U σ (S.set k (.row es (xs.set i (aR es (xs.getD i []) c cs))))) (w.setRow bl arr') (fun _=>none) x v:=fun h=>h.mono (g.keepU U) (g.ownU U) fun _ _=>rfl
       rw [hget]
       by_cases hii:i'=i
       ·subst hii
        rw [zS hi] at hx'
        obtain rfl:=Option.some.inj hx'
        rw [hpg] at hy'
        by_cases hc:c≤c'∧c'<c+cs.length
        ·rw [if_pos hc] at hy'
         rw [if_pos (by omega),show i'*es+c'- (i'*es+c)=c'-c by omega]
         obtain⟨u,q1,q2,q3⟩:=hvc _ _ hy'
         exact⟨u,q1,q2,g0 q3⟩
        ·rw [if_neg hc] at hy'
         rw [if_neg (by omega)]
         simp only [zD,zA hi,yE] at hy'
         obtain⟨u,q1,q2,q3⟩:=hcells i' _ c' y (zA hi) hy'
         exact⟨u,q1,q2,g0 q3⟩
       ·rw [zV (Ne.symm hii)] at hx'
        have hc':c'<es:=by
         obtain⟨h',-⟩:=List.getElem?_eq_some_iff.1 hy'
         rw [hes x (zI hx')] at h';exact h'
        rw [if_neg (by rw [hvs];exact aPS hii (by omega) hc')]
        obtain⟨u,q1,q2,q3⟩:=hcells i' x c' y hx' hy'
        exact⟨u,q1,q2,g0 q3⟩)
     exact⟨_,_,_,hK,fun o' ho'=>⟨_,undef,_,σ,run bl _ _ hva (by omega) hst o' ho',.inr ⟨rfl,rfl⟩,fun _ _=>rfl,by rw [hmx];exact g,by rw [hmx];exact r,.any _⟩⟩
    ·rename_i bs ho
     obtain⟨rfl,hle,hlen,hone,hK⟩:=hK
     have hob:=hR.obj k _ ho
     rw [hs] at hob
     obtain⟨b',hl,arr,ty,hh,hsz,hcells⟩:=hob
     simp only [Option.some.injEq,Prod.mk.injEq] at hl
     obtain⟨rfl,rfl,rfl⟩:=hl
     obtain⟨hvs,hvc⟩:=qD hy h2 hone
     obtain⟨arr',hst,hsz',hget⟩:=dL (P:=P) (o:=c) (ρ y).cells hh (fun j _ h=>yG _ h.2) (by omega) (fun v hv=>by
      obtain⟨j,hj,rfl⟩:=zY hv
      simp only [zO] at hj
      obtain⟨u,hu1,hu2,-⟩:=hvc j _ (zA (by omega:j<cs.length))
      rw [zG hj] at hu1
      obtain rfl:=Option.some.inj hu1
      simpa using hu2)
     obtain⟨hpl,hpg⟩:=aAT (l:=bs) (cs:=cs) (c:=c) rfl (by omega)
     obtain⟨g,r⟩:=hR.write (o:=.box (aR bs.length bs c cs)) ho hs (w':=w.setRow bl arr') rfl rfl rfl (by simp) (fun j hj=>setRow_other w bl j arr' hj) (fun g=>by
      refine⟨bl,by rw [hpl],arr',ty,setRow_heap w bl arr arr' ty _ hh,by omega,fun c' y hy'=>?_⟩
      have g0:∀ {x v},VR (Own U σ S) w σ x v→VR (Own U σ (S.set k (.box (aR bs.length bs c cs)))) (w.setRow bl arr') σ x v:=fun h=>h.grow g
      rw [hpg] at hy'
      rw [hget]
      by_cases hc:c≤c'∧c'<c+cs.length
      ·rw [if_pos hc] at hy'
       rw [if_pos (by omega)]
       obtain⟨u,q1,q2,q3⟩:=hvc _ _ hy'
       exact⟨u,q1,q2,g0 q3⟩
      ·rw [if_neg hc] at hy'
       rw [if_neg (by omega)]
       obtain⟨u,q1,q2,q3⟩:=hcells c' y hy'
       exact⟨u,q1,q2,g0 q3⟩)
     simp only [Nat.zero_mul,Nat.zero_add] at hva
     exact⟨_,_,_,hK,fun o' ho'=>⟨_,undef,_,σ,run bl _ _ hva (by omega) hst o' ho',.inr ⟨rfl,rfl⟩,fun _ _=>rfl,by rw [hmx];exact g,by rw [hmx];exact r,.any _⟩⟩
    ·rename_i l ho
     split at hK
     ·rename_i v
      obtain⟨⟨rfl,rfl⟩,hi,⟨hv0,hv1⟩,hK⟩:=hK
      have hob:=hR.obj k _ ho
      rw [hs] at hob
      obtain⟨b',cap',hl,hcap,arr,ty,hh,hsz,hcells⟩:=hob
      simp only [Option.some.injEq,Prod.mk.injEq] at hl
      obtain⟨rfl,rfl,rfl⟩:=hl
      obtain⟨hvs,hvc⟩:=qD hy h2 rfl
      obtain⟨u,hu1,hu2,hu3⟩:=hvc 0 _ rfl
      cases hu3 with
      |int=>
      have hlt:i<arr.size:=by omega
      have hone:∀z∈(ρ y).cells.toList,z.oneCell'=true:=fun z hz=>by
       obtain⟨j,hj,rfl⟩:=zY hz
       simp only [zO] at hj
       simp only [zH,zX] at hvs
       obtain rfl:j=0:=by omega
       rw [zG hj] at hu1
       have hu1:=Option.some.inj hu1
       rw [Array.getElem_toList,hu1];rfl
      obtain⟨arr',hst,hsz',hget⟩:=dL (P:=P) (o:=i*1+0) (ρ y).cells hh (fun j hj h'=>Nat.not_le_of_gt hj h'.1) (by simp only [zH,zX] at hvs;omega) hone
      have hby:((UInt8.ofNat v.toNat).toNat:Int)=v:=by rw [UInt8.toNat_ofNat'];omega
      obtain⟨g,r⟩:=hR.write (o:=.bb (l.set i (UInt8.ofNat v.toNat))) ho hs (w':=w.setRow bl arr') rfl rfl rfl (by simp) (fun j hj=>setRow_other w bl j arr' hj) (fun g=>by
       refine⟨bl,_,rfl,by rw [yF];exact hcap,arr',ty,by rw [hsz'];exact setRow_heap w bl arr arr' ty _ hh,by omega,fun i' x hx=>?_⟩
       rw [hget]
       simp only [zH,zX] at hvs
       by_cases hii:i'=i
       ·subst hii
        rw [zS hi] at hx
        obtain rfl:=Option.some.inj hx
        rw [if_pos (by omega),show i'- (i'*1+0)=0 by omega,hu1,hby]
       ·rw [zV (Ne.symm hii)] at hx
        rw [if_neg (by omega)]
        exact hcells i' x hx)
      exact⟨_,_,_,hK,fun o' ho'=>⟨_,undef,_,σ,run bl _ _ hva (by simpa using hvs) hst o' ho',.inr ⟨rfl,rfl⟩,fun _ _=>rfl,by rw [hmx];exact g,by rw [hmx];exact r,.any _⟩⟩
     ·cases hK
    ·cases hK
 ·cases hK
theorem dY {es:Nat} {z:List V} (hz:z.length=es)(hpos:0<es):∀(m j:Nat),j<m*es→(zE m z).flatten[j]? =z[j%es]?
 |0,j,h=>by simp at h
 |m+1,j,h=>by
  simp only [List.replicate_succ,zQ]
  by_cases hj:j<es
  ·rw [yA (by omega),Nat.mod_eq_of_lt hj]
  ·rw [zZ (by omega),hz,dY hz hpos m (j-es) (by rw [zF] at h;omega),←Nat.mod_eq_sub_mod (by omega)]
theorem aAD {O:Nat→Prop} {w:World} {el:TypeId} {z:List V} {es:Nat} {zv:Value} (hvs:aJY zv.cells.toList=some z)(h1:z.all bW=true)(hz:z.length=es)(hpos:0<es)(m:Nat):
 lU O w (fun _=>none) (zE m z).flatten ((yK (m*es)).map (zv.cells[·%zv.cells.size]!)):=by
 obtain⟨hl,hf⟩:=uY hvs (oH h1) O w (fun _=>none)
 have hsz:zv.cells.size=es:=by simpa [hz] using hl
 have hall:∀x∈zE m z,x.length=es:=fun x hx=>by rw [(List.mem_replicate.1 hx).2];exact hz
 intro j y hy
 obtain⟨hj,-⟩:=List.getElem?_eq_some_iff.1 hy
 rw [dP hall,zT] at hj
 rw [dY hz hpos m j hj] at hy
 obtain⟨u,h1,h2,h3⟩:=hf _ y hy
 have hlt:j%es<zv.cells.size:=by rw [hsz];exact Nat.mod_lt _ hpos
 refine⟨u,?_,h2,h3⟩
 simp only [yI] at h1
 rw [Array.getElem?_map,Array.getElem?_range,if_pos hj]
 simp only [yQ,hsz]
 rw [getElem!_pos zv.cells (j%es) hlt]
 rw [zG hlt] at h1
 exact h1
theorem aQ9:∀(l:List (Nat×Operand)) (ps:List (Nat×Nat×A)),qZ (fun i=>some (i,0)) l=some ps→(∀x a,bF x=some a→VR (Own U σ S) w σ (e a) (ρ x))→
 ps.length=l.length∧∀(i:Nat) p v,((ps.map fun p=>(p.1,p.2.2)).map fun p=>(p.1,e p.2))[i]? =some p→(l.map fun p=>(p.1,ρ p.2))[i]? =some v→v.1=p.1∧VR (Own U σ S) w σ p.2 v.2:=by
 intro l
 induction l with
 |nil=>intro ps h _;simp only [qZ,Option.some.injEq] at h;subst h;simp
 |cons q r ih=>
  intro ps h he
  obtain⟨i,x⟩:=q
  simp only [qZ] at h
  split at h
  ·rename_i off sz a ps' h1 h2 h3
   obtain rfl:=Option.some.inj h
   obtain⟨hl,hp⟩:=ih ps' h3 he
   refine⟨by simp [hl],fun j p v hp' hv'=>?_⟩
   simp only [Option.some.injEq,Prod.mk.injEq] at h1
   obtain⟨rfl,rfl⟩:=h1
   cases j with
   |zero=>
    simp only [List.map_cons,zC,Option.some.injEq] at hp' hv'
    subst hp' hv'
    exact⟨rfl,he _ _ h2⟩
   |succ j=>exact hp j p v (by simpa using hp') (by simpa using hv')
  ·cases h
theorem VR.row(σ:Sg)(O:Nat→Prop)(w:World)(m b es cap len:Nat)(hle:len≤cap):VR O w (σ.put m (some b,es,cap)) (.sl m 0 len) (.slice (some ⟨b,0,none⟩) len cap):=by
 have :=VR.sl (O:=O) (w:=w) (off:=0) (len:=len) (a:=some ⟨b,0*es,none⟩) (Sg.put_same σ m (some b,es,cap)) (by omega) (fun _=>rfl)
 simpa using this
theorem VR.rowk(σ:Sg)(O:Nat→Prop)(w:World)(m b es cap len:Nat)(hle:len≤cap):VR O w (σ.put m (some b,es,cap)) (.slk m 0 len cap) (.slice (some ⟨b,0,none⟩) len cap):=by
 have :=VR.slk (O:=O) (w:=w) (off:=0) (len:=len) (c:=cap) (a:=some ⟨b,0*es,none⟩) (Sg.put_same σ m (some b,es,cap)) (by omega) (fun _=>rfl) rfl
 simpa using this
theorem aQU {t el:TypeId} {mm es:Nat} {z:List V} {parts:Array (Nat×Operand)} {ps:List (Nat×Nat×A)} (ht:P.underlying t=some (.slice el))(hes:bB P el=some es)(hz:zeroOf P el=some z)
 (hps:qZ (fun i=>some (i,0)) parts.toList=some ps) (hc:mm*es≤16777216∧z.length=es∧0<es∧z.all bW=true) (he:∀x a,bF x=some a→VR (Own U σ S) w σ (e a) (ρ x)) (hR:aS U σ S w n) (hfree:S.get m=none∧σ m=none)
 (hK:mO S m (.bslice es z mm (ps.map fun p=>(p.1,p.2.2))) e K):oG P U σ S w n m ρ (.buildSlice t mm parts) K:=by
 obtain⟨hc1,hc2,hc3,hc4⟩:=hc
 obtain⟨i,zv,hi,hzero,hvs⟩:=gA hz
 have hall:∀x∈zE mm z,x.length=es:=fun x hx=>by rw [(List.mem_replicate.1 hx).2];exact hc2
 have hrep:=aAD (O:=Own U σ S) (w:=w) (el:=el) hvs hc4 hc2 hc3 mm
 obtain⟨hpl,hpp⟩:=aQ9 _ _ hps he
 simp only [mO] at hK
 split at hK
 ·rename_i rows hrows
  obtain⟨hr1,hr2,arr',hfill,hsz,hfl⟩:=aLW _ (parts.toList.map fun p=>(p.1,ρ p.2)) _ rows _ hall (by simp) hrep (by simp [hpl]) hpp hrows
  simp only [zT] at hr2
  obtain⟨g,r⟩:=hR.new_row hfree (kP.alloc w arr' el) S (fun _ _ h=>h) (xs:=rows) (cap:=mm) hr1 ⟨by omega,Nat.le_trans (Nat.le_mul_of_pos_right mm hc3) (by omega)⟩ (by rw [hsz,hr2];exact yJ _) (fun i x c y hx hy=>hfl _ _ (eY hr1 i x c y hx hy))
  refine⟨_,_,_,hK,fun o' ho=>⟨_,.slice (some ⟨w.heap.size,0,none⟩) mm mm,_,_,?_,.inl rfl,(by intro k hk;first |rfl |exact Sg.put_other _ _ hk),g,r,VR.row _ _ _ _ _ _ _ _ (yJ _)⟩⟩
  have hfill':Instr.fill (fun i=>some (i*es,es)) ((yK (mm*es)).map (zv.cells[·%zv.cells.size]!)) (parts.map fun p=>(p.1,ρ p.2)).toList=some arr':=by simpa using hfill
  have hlt:¬(2^24<mm*es):=by omega
  by_cases h0:mm*es=0
  ·simp only [execOp,ho,Instr.buildSlice,Sem.run_bind,run_underlying ht,Result.andThen_ok,bA hes,hlt,if_false,h0,if_true,Sem.run_pure,gt_iff_lt,yG]
   have e0:∀f:Nat→Value,(yK 0).map f= #[]:=fun f=>by simp
   have hz':Instr.fill (fun i=>some (i*es,es)) ((yK 0).map ((#[]:Array Value)[·%(#[]:Array Value).size]!)) (parts.map fun p=>(p.1,ρ p.2)).toList=some arr':=by
    rw [h0,e0] at hfill'
    rw [e0]
    exact hfill'
   simp only [hz',newRow,Sem.run_bind,run_newObj,Result.andThen_ok,Sem.run_pure]
   rfl
  ·simp only [execOp,ho,Instr.buildSlice,Sem.run_bind,run_underlying ht,Result.andThen_ok,bA hes,hlt,if_false,h0,Sem.run_pure,gt_iff_lt,zeroValue,typeInfo,run_program,hi,hzero]
   simp only [hfill',newRow,Sem.run_bind,run_newObj,Result.andThen_ok,Sem.run_pure]
   rfl
 ·cases hK
theorem kM(l:List UInt8):(cJ l).length=l.length:=by unfold cJ;rw [List.length_map]
theorem bHM {t el:TypeId} {i:TypeInfo} {z:List V} {x y:Operand} {a b:A} (ht:P.underlying t=some (.slice el))(hi:P.info? el=some i)(hz:zeroOf P el=some z)(hc:z.length=i.size∧0<i.size∧z.all bW=true)
 (hx:VR (Own U σ S) w σ (e a) (ρ x)) (hy:VR (Own U σ S) w σ (e b) (ρ y)) (hR:aS U σ S w n) (hfree:S.get m=none∧σ m=none) (hK:mO S m (.mk i.size i.bytes z a b) e K):oG P U σ S w n m ρ (.makeSlice t x y) K:=by
 obtain⟨hc1,hc2,hc3⟩:=hc
 obtain⟨i',zv,hi',hzero,hvs⟩:=gA hz
 rw [hi] at hi'
 obtain rfl:=Option.some.inj hi'
 simp only [mO] at hK
 split at hK
 ·rename_i k1 l k2 c h1 h2
  rw [h1] at hx
  rw [h2] at hy
  generalize hva:ρ x=va at hx
  generalize hvb:ρ y=vb at hy
  cases hx
  cases hy
  obtain⟨g0,g1,g2,g3,hK⟩:=hK
  have hall:∀q∈zE l.toNat z,q.length=i.size:=fun q hq=>by rw [(List.mem_replicate.1 hq).2];exact hc1
  have hrep:=aAD (O:=Own U σ S) (w:=w) (el:=el) hvs hc3 hc1 hc2 c.toNat
  have hmono:lU (Own U σ S) w (fun _=>none) (zE l.toNat z).flatten (madeCells zv.cells (c.toNat*i.size)):=by
   intro j q hq
   obtain⟨hj,-⟩:=List.getElem?_eq_some_iff.1 hq
   rw [dP hall,zT] at hj
   have hle:l.toNat*i.size≤c.toNat*i.size:=zM _ (by omega)
   rw [dY hc1 hc2 _ j hj] at hq
   refine hrep j q ?_
   rw [dY hc1 hc2 _ j (by omega)]
   exact hq
  obtain⟨g,r⟩:=hR.new_row hfree (kP.alloc w (madeCells zv.cells (c.toNat*i.size)) el) S (fun _ _ h=>h) (xs:=zE l.toNat z) (cap:=c.toNat) hall (by simp;omega) (by rw [size_madeCells];exact yJ _) (fun i x c y hx hy=>hmono _ _ (eY hall i x c y hx hy))
  refine⟨_,_,_,hK,fun o' ho=>⟨_,.slice (some ⟨w.heap.size,0,none⟩) l.toNat c.toNat,_,_,?_,.inl rfl,(by intro k hk;first |rfl |exact Sg.put_other _ _ hk),g,r,VR.rowk _ _ _ _ _ _ _ _ (by omega)⟩⟩
  have hrun:=run_make (P:=P) w t el i zv ht hi hzero k1 k2 l c g0 g1 g2 g3
  simp only [execOp,ho,hva,hvb,Sem.run_bind,hrun,Result.andThen_ok,Sem.run_pure]
 ·cases hK
theorem aH9 {x:V} {v:Value} {es es':Nat} {ys:List (List V)} {tx e':TypeId} (hk:P.underlying tx=some (.slice e'))(hR:aS U σ S w n)(hx:VR (Own U σ S) w σ x v) {len':Nat} (hs:aJT S x=some (es',len',ys))(hes:es'=es∨ys=[])(hlen':ys.length=len'):
 (∀y∈ys,y.length=es)∧(∃ad cap,v=.slice ad ys.length cap)∧∀m,m≤ys.length→∃news:List Value,news.length=m*es∧(∀u∈news,u.oneCell'=true)∧lU (Own U σ S) w (fun _=>none) (ys.take m).flatten news.toArray∧
  ∀w',sA w w'→(Builtin.firstCells es m v).run P w'=.ok news.toArray w':=by
 have gen:∀(b o:Nat) (len cap:Nat) (ad:Option Addr),(∀y∈ys,y.length=es)→v=.slice ad len cap→ys.length=len→(ys≠ []→ad=some ⟨b,o,none⟩∧b<w.heap.size)→
  (∀(i:Nat) (z:List V) (c:Nat) (y:V),ys[i]? =some z→z[c]? =some y→∃u,w.cell? ⟨b,o+i*es+c,none⟩=some u∧u.oneCell'=true∧VR (Own U σ S) w (fun _=>none) y u)→
  ∀m,m≤ys.length→∃news:List Value,news.length=m*es∧(∀u∈news,u.oneCell'=true)∧lU (Own U σ S) w (fun _=>none) (ys.take m).flatten news.toArray∧∀w',sA w w'→(Builtin.firstCells es m v).run P w'=.ok news.toArray w':=by
  intro b o len cap ad hall hv hlen had hcells m hm
  by_cases hys:ys=[]
  ·subst hys
   obtain rfl:m=0:=by simpa using hm
   refine⟨[],by simp,by simp,fun j y hy=>by simp at hy,fun w' _=>?_⟩
   subst hv
   cases ad with
   |none=>simp [Builtin.firstCells]
   |some a=>simp [Builtin.firstCells,loadCells,loadCellsFrom]
  ·obtain⟨rfl,hb⟩:=had hys
   have hdec:∀j,j<m*es→∃(i:Nat) (z:List V) (c:Nat) (y:V),ys[i]? =some z∧z[c]? =some y∧j=i*es+c∧i<m:=by
    intro j hj
    have hpos:0<es:=by
     rcases Nat.eq_zero_or_pos es with h |h
     ·subst h;simp at hj
     ·exact h
    have hi:j/es<m:=(Nat.div_lt_iff_lt_mul hpos).2 hj
    have hil:j/es<ys.length:=by omega
    have hc:j%es<es:=Nat.mod_lt _ hpos
    have hzl:(ys[j/es]).length=es:=hall _ (yP hil)
    exact⟨j/es,ys[j/es],j%es,(ys[j/es])[j%es],zA hil,zA (by omega),by rw [Nat.mul_comm,Nat.div_add_mod],hi⟩
   have hone:∀j,j<m*es→∃u,w.cell? ⟨b,o+j,none⟩=some u∧u.oneCell'=true:=by
    intro j hj
    obtain⟨i,z,c,y,h1,h2,rfl,-⟩:=hdec j hj
    obtain⟨u,q1,q2,-⟩:=hcells i z c y h1 h2
    exact⟨u,by rw [←yM];exact q1,q2⟩
   refine⟨(List.range (m*es)).map fun j=>(w.cell? ⟨b,o+j,none⟩).getD undef,by simp,fun u hu=>?_,fun j y hy=>?_,fun w' hs=>?_⟩
   ·obtain⟨j,hj,rfl⟩:=List.mem_map.1 hu
    obtain⟨u,q1,q2⟩:=hone j (List.mem_range.1 hj)
    simpa [q1] using q2
   ·have hallm:∀y∈ys.take m,y.length=es:=fun y hy=>hall y (yL hy)
    obtain⟨hj,-⟩:=List.getElem?_eq_some_iff.1 hy
    rw [dP hallm,yD,Nat.min_eq_left hm] at hj
    obtain⟨i,z,c,y',h1,h2,rfl,him⟩:=hdec j hj
    have :=eY hallm i z c y' (by rw [zK,if_pos him];exact h1) h2
    rw [this] at hy
    obtain rfl:=Option.some.inj hy
    obtain⟨u,q1,q2,q3⟩:=hcells i z c y' h1 h2
    refine⟨u,?_,q2,q3⟩
    rw [yM] at q1
    simp [hj,q1]
   ·subst hv
    simp only [Builtin.firstCells]
    exact run_loadCells b o _ (m*es) fun j hj=>by
     obtain⟨u,q1,-⟩:=hone j hj
     rw [hs.cell hb,q1]
     rfl
 unfold aJT aOJ at hs
 replace hx:=lK hx
 generalize tK x=x0 at hs hx
 split at hs
 ·rename_i es2 t2 xs
  simp only [Option.some.injEq,Prod.mk.injEq] at hs
  obtain⟨rfl,rfl,rfl⟩:=hs
  cases hx with
  | @lst _ _ _ _ ad cap b o cv had hl hcap ht' hc1 hc3 hc2=>
    have hall:∀y∈xs,y.length=es:=fun y hy=>by
     rcases hes with rfl |h
     ·exact hl y hy
     ·subst h;simp at hy
    refine⟨hall,⟨ad,cap,rfl⟩,gen b o _ _ ad hall rfl rfl (fun hne=>⟨(had hne).1,(had hne).2.2⟩) fun i z c y hz hy=>?_⟩
    obtain⟨hi,-⟩:=List.getElem?_eq_some_iff.1 hz
    obtain⟨hc,-⟩:=List.getElem?_eq_some_iff.1 hy
    have hzl:=hl z (zI hz)
    have hzl':=hall z (zI hz)
    have :=hc1 i c hi (by omega)
    rw [hzl.symm.trans hzl'] at this
    exact⟨_,this,hc3 i c hi (by omega),hc2 i z c y hz hy⟩
 ·rename_i k off len
  split at hs
  ·rename_i es2 xs ho
   simp only [Option.some.injEq,Prod.mk.injEq] at hs
   obtain⟨rfl,rfl,rfl⟩:=hs
   have hob:=hR.obj k _ ho
   cases hx with
   | @sl _ _ _ _ b es3 cap ad hs' hle had=>
     rw [hs'] at hob
     obtain⟨hl,rfl,hcap,arr,ty,hh,hsz,hcells⟩:=hob
     have hlen:off+len≤xs.length∨len=0:=by simp at hlen';omega
     have hall:∀y∈(xs.drop off).take len,y.length=es:=fun y hy=>by
      rcases hes with rfl |h
      ·exact hl y (List.mem_of_mem_drop (yL hy))
      ·rw [h] at hy;simp at hy
     have hblt:b<w.heap.size:=(Array.getElem?_eq_some_iff.1 hh).1
     refine⟨hall,⟨ad,cap-off,by rw [hlen']⟩,gen b (off*es) _ _ ad hall rfl hlen' (fun hne=>?_) fun i z c y hz hy=>?_⟩
     ·have hpos:0< ((xs.drop off).take len).length:=List.length_pos_iff.2 hne
      rw [hlen'] at hpos
      rcases hes with rfl |h
      ·exact⟨had (by omega),hblt⟩
      ·exact absurd h hne
     ·obtain⟨hi,-⟩:=List.getElem?_eq_some_iff.1 hz
      rw [hlen'] at hi
      rw [zK,if_pos hi,zP] at hz
      have hzz:=hz
      obtain⟨u,q1,q2,q3⟩:=hcells _ z c y hz hy
      have e1:es3=es:=by
       rcases hes with rfl |h
       ·rfl
       ·rw [h] at hlen';simp at hlen';omega
      subst e1
      refine⟨u,?_,q2,q3⟩
      rw [zF] at q1
      simp [World.cell?,hh,q1]
   |sl0 hs'=>
    rw [hs'] at hob
    obtain⟨hl,rfl,-,rfl⟩:=hob
    simp only [List.drop_nil,List.take_nil] at *
    exact⟨by simp,⟨_,0,rfl⟩,gen 0 0 _ _ _ (by simp) rfl rfl (by simp) (by simp)⟩
  ·cases hs
 ·simp only [Option.some.injEq,Prod.mk.injEq] at hs
  obtain⟨rfl,rfl,rfl⟩:=hs
  cases hx
  exact⟨by simp,⟨_,_,rfl⟩,gen 0 0 _ _ _ (by simp) rfl rfl (by simp) (by simp)⟩
 ·cases hs
end
end Go.Sk
