import Derived.Test.YthpmdmkmfoaamaaGreatDoorI1
set_option linter.unusedVariables false
open Go.IntKind (i64 u64 u32)
namespace Go.bF
variable {P:Program} {T:cG} {n:Nat} {V0:View} {br:Bf} {β0:Nat->Nat} {st:St} {β:Nat->Nat} {a:Act} {w:World} {V:View}
theorem eO (b o k:Nat):(⟨b,o,none⟩:Addr).add k=⟨b,o+k,none⟩:=by
 unfold Addr.add;split
 ·rename_i h;subst h;rfl
 ·rfl
theorem cell_of_row {g o:Nat}{vs:List Value}{ty:TypeId}(h:w.heap[g]?=some (.cells vs.toArray ty (0,0))):w.cell? ⟨g,o,none⟩=vs[o]?:=by
 simp [World.cell?,h]
theorem z_ {g o m:Nat}{vs:List Value}{ty t:TypeId}{info:TypeInfo}{d:TypeDesc}(h:w.heap[g]?=some (.cells vs.toArray ty (0,0)))
  (h1:P.info? t=some info)(h2:P.underlying t=some d)(hm:info.size=m)(hk:pK (jw d)=true)(hl:o+m<=vs.length) :
  (loadVar t ⟨g,o,none⟩).run P w=.ok (.agg ((vs.drop o).take m).toArray) w:=by
 subst hm
 have key:=run_loadCells_list (P:=P) (w:=w) ⟨g,o,none⟩ ((vs.drop o).take info.size) (by
  intro j v hj
  rw [eO,cell_of_row h]
  rw [List.getElem?_take] at hj
  split at hj
  ·rw [List.getElem?_drop] at hj;exact hj
  ·cases hj)
 rw [List.length_take,List.length_drop,Nat.min_eq_left (by omega)] at key
 simp only [loadVar,Sem.run_bind,fI h2,Result.andThen_ok,hk,if_true,aL h1,key,Sem.run_pure]
theorem wU {g o:Nat}{vs:List Value}{ty t:TypeId}{d:TypeDesc}{v:Value}(h:w.heap[g]?=some (.cells vs.toArray ty (0,0)))
  (h2:P.underlying t=some d)(hk:pK (jw d)=false)(hv:vs[o]?=some v) :
  (loadVar t ⟨g,o,none⟩).run P w=.ok v w:=by
 simp only [loadVar,Sem.run_bind,fI h2,Result.andThen_ok,hk,Bool.false_eq_true,if_false,run_load,cell_of_row h,hv]
theorem Mod.row (hM:Mod n V0 br β0 st β a w V){s:Nat}{b:aO}(hb:st.boxes s=some b)(lb:b.live):w.heap[β s]?=some (.cells (b.cs.den β).toArray b.ty (0,0)):=hM.boxes s b hb lb
theorem fY {cs:List C}{c:C}{s:Nat}(hc:c∈cs)(hs:s∈c.ids):s∈cs.flatMap C.ids:=List.mem_flatMap.2 ⟨c,hc,hs⟩
theorem wY (hM:Mod n V0 br β0 st β a w V){t:TypeId}{i:TI}(hi:kE P t=some i){x:SV}{sc:List Prop}{v:SV}(h:iw st.boxes i x=.ret sc v) :
  (Instr.loadAt t (x.den β)).run P w=.ok (v.den β) w/\Live st v:=by
 obtain ⟨info,d,z,h1,h2,h3,h4,h5,-⟩:=aC hi
 unfold iw at h
 split at h
 ·rename_i b o
  split at h
  ·rename_i cs ty hb
   have hrow:=hM.row hb cA
   have hlive:=hM.vN b _ hb
   simp only [Cells.den] at hrow
   have hagg:pK i.k=true->(if Nat.ble (o+i.size) cs.length then Q.ret [] (.agg ((cs.drop o).take i.size)) else .fail)=.ret sc v ->
     (Instr.loadAt t (SV.den β (.c (.ptr b o)))).run P w=.ok (v.den β) w/\Live st v:=by
    intro hk h
    split at h
    ·rename_i hl
     have hl:=Nat.le_of_ble_eq_true hl
     simp only [Q.ret.injEq] at h;obtain ⟨-,rfl⟩:=h
     refine ⟨?_,?_⟩
     ·have:=z_ (t:=t) (o:=o) (m:=i.size) hrow h1 h2 h5.symm (h4▸hk) (by simpa using hl)
      simp only [Instr.loadAt,Instr.sureAddr,SV.den,C.den,Sem.run_bind,Sem.run_pure,Result.andThen_ok,this]
      rw [List.map_take,List.map_drop]
     ·intro s hs
      obtain ⟨c,hc,hs⟩:=List.mem_flatMap.1 hs
      exact hlive s (fY (List.mem_of_mem_drop (List.mem_of_mem_take hc)) hs)
    ·cases h
   split at h
   ·rename_i hk;exact hagg (by rw [hk];rfl) h
   ·rename_i hk;exact hagg (by rw [hk];rfl) h
   ·rename_i hk1 hk2
    have hk:pK i.k=false:=by
     cases hik:i.k<;>first|rfl|exact absurd hik (hk1 _)|exact absurd hik (hk2 _ _)
    split at h
    ·rename_i c hc
     simp only [Q.ret.injEq] at h;obtain ⟨-,rfl⟩:=h
     refine ⟨?_,?_⟩
     ·have:=wU (t:=t) (o:=o) (v:=c.den β) hrow h2 (h4▸hk) (by simp [hc])
      simp only [Instr.loadAt,Instr.sureAddr,SV.den,C.den,Sem.run_bind,Sem.run_pure,Result.andThen_ok,this]
     ·intro s hs
      exact hlive s (fY (List.mem_of_getElem? hc) hs)
    ·cases h
  ·cases h
  ·split at h<;>cases h
  ·cases h
 ·split at h<;>cases h
 ·cases h
theorem uQ.dD:∀(s:uQ) {K:C->Prop},s.ex K->∃c,c.ids=[]/\K c
 | .int _,_,⟨_,h⟩=>⟨_,rfl,h⟩
 | .bool,_,⟨_,h⟩=>⟨_,rfl,h⟩
 | .slice,_,⟨_,_,_,h⟩=>⟨_,rfl,h⟩
 | .ptr,_,⟨_,h⟩=>⟨_,rfl,h⟩
 | .str,_,⟨_,h⟩=>⟨_,rfl,h⟩
 | .any,_,⟨_,h⟩=>⟨_,rfl,h⟩
theorem oG:∀(l:List uQ) {K:List C->Prop},Jj l K->∃cs,cs.flatMap C.ids=[]/\cs.length=l.length/\K cs
 | [],_,h=>⟨[],rfl,rfl,h⟩
 | s::r,K,h=>by
  obtain ⟨c,hc,h'⟩:=uQ.dD s h
  obtain ⟨cs,h1,h2,h3⟩:=oG r h'
  exact ⟨c::cs,by simp [hc,h1],by simp [h2],h3⟩
theorem r_.dD:∀(s:r_) {K:SV->Prop},s.ex K->∃x,x.ids=[]/\((∃c,x=.c c/\∃s',s=.one s')\/∃cs l,x=.agg cs/\s=.agg l/\cs.length=l.length)/\K x
 | .one s,K,h=>by obtain ⟨c,hc,h'⟩:=uQ.dD s h;exact ⟨.c c,hc,.inl ⟨c,rfl,s,rfl⟩,h'⟩
 | .agg l,K,h=>by obtain ⟨cs,h1,h2,h'⟩:=oG l h;exact ⟨.agg cs,h1,.inr ⟨cs,l,rfl,rfl,h2⟩,h'⟩
theorem tu:∀(l:List r_) {K:List (Bool×List C)->Prop},Ky l K->∃xs,(xs.flatMap fun x=>x.2.flatMap C.ids)=[]/\K xs
 | [],_,h=>⟨[],rfl,h⟩
 | .one s::r,K,h=>by
  obtain ⟨c,hc,h'⟩:=uQ.dD s h
  obtain ⟨xs,h1,h2⟩:=tu r h'
  exact ⟨_,by simp [hc,h1],h2⟩
 | .agg l::r,K,h=>by
  obtain ⟨cs,hc,-,h'⟩:=oG l h
  obtain ⟨xs,h1,h2⟩:=tu r h'
  exact ⟨(true,cs)::xs,by simp only [List.flatMap_cons,hc,h1,List.append_nil],h2⟩
theorem Sh.dD:∀(s:Sh) {K:SV->Prop},s.ex K->∃x,x.ids=[]/\K x
 | .val s,K,h=>by obtain ⟨x,hx,-,h'⟩:=r_.dD s h;exact ⟨x,hx,h'⟩
 | .oh l,K,h=>by obtain ⟨xs,hx,h'⟩:=tu l h;exact ⟨.oh xs,hx,h'⟩
 | .none,K,h=>⟨.oh [],rfl,h⟩
theorem iW {x:SV}(h:x.ids=[])(β β':Nat->Nat):x.den β=x.den β':=SV.bI fun s hs=>by rw [h] at hs;cases hs
theorem bM {x:SV}(h:x.ids=[]):Live st x:=fun s hs=>by rw [h] at hs;cases hs
theorem Ar:∀(cs:List C) (p:Addr) (i:Nat) {k:Prop},V.HJ p i cs k->(∀j c,cs[j]?=some c->V.at (p.add (i+j)) (c.den fun _=>0))/\k
 | [],_,_,_,h=>⟨fun j c hj=>by simp at hj,h⟩
 | c::r,p,i,k,⟨h1,h2⟩=>by
  obtain ⟨h3,h4⟩:=Ar r p (i+1) h2
  refine ⟨fun j d hj=>?_,h4⟩
  cases j with
  | zero=>simp at hj;subst hj;exact h1
  | succ j=>simp at hj;have:=h3 j d hj;rwa [show i+1+j=i+(j+1) from by omega] at this
theorem Mod.OB (hM:Mod n V0 br β0 st β a w V){p:Addr}{v:Value}(h:V.at p v):w.cell? p=some v:=by
 obtain ⟨hH,hc⟩:=h
 unfold World.cell? at hc ⊢
 split at hc
 ·rename_i c e f hb
  rw [(hM.om p.block _ ⟨hH,hb⟩).1]
  exact hc
 ·cases hc
theorem Dg {i:TI}{l:List uQ}(h:j7 i=.agg l):pK i.k=true/\l.length=i.zero.length:=by
 unfold j7 at h
 split at h
 ·rename_i hk;simp only [r_.agg.injEq] at h;subst h;exact ⟨by rw [hk];rfl,by simp⟩
 ·rename_i hk;simp only [r_.agg.injEq] at h;subst h;exact ⟨by rw [hk];rfl,by simp⟩
 ·split at h<;>cases h
theorem Dh {i:TI}{s:uQ}(h:j7 i=.one s):pK i.k=false:=by
 unfold j7 at h
 split at h
 ·cases h
 ·cases h
 ·rename_i h1 h2
  cases hik:i.k<;>first|rfl|exact absurd hik (h1 _)|exact absurd hik (h2 _ _)
theorem J9 (hM:Mod n V0 br β0 st β a w V){t:TypeId}{i:TI}(hi:kE P t=some i)(hz:i.zero.length=i.size){p:OA}{x:SV}{k:Prop}
  (hx:x.ids=[])(hs:(∃c,x=.c c/\∃s',j7 i=.one s')\/∃cs l,x=.agg cs/\j7 i=.agg l/\cs.length=l.length)(h:V.GH p x k) :
  (Instr.loadAt t (.pointer p)).run P w=.ok (x.den β) w/\k:=by
 obtain ⟨info,d,z,h1,h2,h3,h4,h5,-⟩:=aC hi
 rcases hs with ⟨c,rfl,s,hs⟩|⟨cs,l,rfl,hs,hl⟩
 ·obtain ⟨⟨ad,rfl,hat⟩,hk⟩:=h
  have hkk:=Dh hs
  rw [h4] at hkk
  refine ⟨?_,hk⟩
  simp only [Instr.loadAt,Instr.sureAddr,Sem.run_bind,Sem.run_pure,Result.andThen_ok,loadVar,fI h2,hkk,Bool.false_eq_true,if_false,run_load,hM.OB hat]
  rw [iW hx β fun _=>0]
  rfl
 ·obtain ⟨ad,rfl,hr⟩:=h
  obtain ⟨hkk,hl2⟩:=Dg hs
  rw [h4] at hkk
  obtain ⟨h6,h7⟩:=Ar cs ad 0 hr
  refine ⟨?_,h7⟩
  have key:=run_loadCells_list (P:=P) (w:=w) ad (cs.map (C.den fun _=>0)) (by
   intro j v hj
   rw [List.getElem?_map] at hj
   cases hc:cs[j]? with
   | none=>rw [hc] at hj;cases hj
   | some c=>
    rw [hc] at hj
    simp only [Option.map_some,Option.some.injEq] at hj
    subst hj
    have:=hM.OB (h6 j c hc)
    simpa using this)
  rw [List.length_map,hl,hl2,hz,h5] at key
  simp only [Instr.loadAt,Instr.sureAddr,Sem.run_bind,Sem.run_pure,Result.andThen_ok,loadVar,fI h2,hkk,if_true,aL h1,key]
  rw [iW hx β fun _=>0]
  rfl
theorem xd (hM:Mod n V0 br β0 st β a w V){t:TypeId}{i:TI}(hi:kE P t=some i){b o:Nat}{vs:List Value}{ty:TypeId}(hb:st.boxes b=some ⟨.row vs,ty⟩\/(st.boxes b=some ⟨.bf vs,ty⟩/\i.size≠0)){x:SV}
  (hx:x.ids=[])(hs:(∃c,x=.c c/\∃s',j7 i=.one s')\/∃cs l,x=.agg cs/\j7 i=.agg l/\cs.length=l.length)(h:HN vs o i.size x) :
  (Instr.loadAt t (SV.den β (.c (.ptr b o)))).run P w=.ok (x.den β) w:=by
 obtain ⟨info,d,z,h1,h2,h3,h4,h5,-⟩:=aC hi
 have hrow:w.heap[β b]?=some (.cells vs.toArray ty (0,0)):=by
  rcases hb with hb|⟨hb,hz⟩
  ·exact hM.row hb b_
  ·refine hM.row hb (eG fun e=>?_)
   subst e
   rcases hs with ⟨c,rfl,s,hs⟩|⟨cs,l,rfl,hs,hl⟩
   ·simp [HN] at h
   ·have:=h.1
    simp at this
    omega
 rcases hs with ⟨c,rfl,s,hs⟩|⟨cs,l,rfl,hs,hl⟩
 ·have hkk:=Dh hs
  rw [h4] at hkk
  have:=wU (t:=t) (o:=o) hrow h2 hkk h
  rw [show SV.den β (.c c)=C.den (fun _=>0) c from iW (x:=.c c) hx β _]
  show (Instr.loadAt t (.pointer (some ⟨β b,o,none⟩))).run P w=_
  simp only [Instr.loadAt,Instr.sureAddr,Sem.run_bind,Sem.run_pure,Result.andThen_ok,this]
 ·obtain ⟨hkk,hl2⟩:=Dg hs
  rw [h4] at hkk
  obtain ⟨h6,h7⟩:=h
  have:=z_ (t:=t) (o:=o) (m:=i.size) hrow h1 h2 h5.symm hkk h6
  simp only [Instr.loadAt,Instr.sureAddr,C.den,SV.den,Sem.run_bind,Sem.run_pure,Result.andThen_ok,this,h7]
  have:=iW (x:=.agg cs) hx β fun _=>0
  simp only [SV.den,Value.agg.injEq] at this
  rw [this]
theorem JZ {c:C}(h:∀p∈dW c,p):(c.den β).oneCell'=true:=by
 cases c with
 | v x=>cases x<;>first|rfl|exact (h False (by simp [dW])).elim
 | w x=>exact h (x.oneCell'=true) (by simp [dW])
 | _=>rfl
theorem DG {v:Value}(h:v.oneCell'=true):v.cells=#[v]:=by cases v<;>first|rfl|simp [Value.oneCell'] at h
theorem SV.pV {x:SV}(ht:x.tD=false)(h:∀p∈x.dW,p):(x.den β).cells=(x.cells.map (C.den β)).toArray/\∀v∈x.cells.map (C.den β),v.oneCell'=true:=by
 have h1:∀c∈x.cells,(c.den β).oneCell'=true:=fun c hc=>JZ fun p hp=>h p (List.mem_flatMap.2 ⟨c,hc,hp⟩)
 refine ⟨?_,fun v hv=>by obtain ⟨c,hc,rfl⟩:=List.mem_map.1 hv;exact h1 c hc⟩
 cases x with
 | c c=>exact DG (h1 c (by simp [SV.cells]))
 | agg cs=>rfl
 | oh xs=>cases ht
theorem iA {g:Nat}{old cs:Array Value}{ty:TypeId}(h:w.heap[g]?=some (.cells old ty (0,0))):(w.setRow g cs).heap=w.heap.setIfInBounds g (.cells cs ty (0,0)):=by
 apply Array.ext_getElem?
 intro i
 by_cases e:i=g
 ·subst e
  rw [setRow_heap w i old cs ty (0,0) h,Array.getElem?_setIfInBounds,if_pos rfl,if_pos (aB h)]
 ·rw [setRow_other w g i cs e,Array.getElem?_setIfInBounds,if_neg (Ne.symm e)]
theorem eK {cs:List C}{vs:List Value}(h:j9 cs=some vs):cs.map (C.den β)=vs/\cs.flatMap C.ids=[]:=by
 induction cs generalizing vs with
 | nil=>simp [j9] at h;subst h;exact ⟨rfl,rfl⟩
 | cons c r ih=>
  simp only [j9] at h
  split at h
  ·rename_i v ws hv hws
   simp only [Option.some.injEq] at h
   subst h
   obtain ⟨h1,h2⟩:=ih hws
   have:c.den β=v/\c.ids=[]:=by cases c<;>simp_all [C.val?,C.den,C.ids]
   exact ⟨by simp [h1,this.1],by simp [h2,this.2]⟩
  ·cases h
theorem oY {cs xs:List C}{o:Nat}:(setCells cs o xs).map (C.den β)=(cs.map (C.den β)).take o++xs.map (C.den β)++(cs.map (C.den β)).drop (o+xs.length):=by
 simp [setCells,List.map_take,List.map_drop]
theorem oX {cs xs:List C}{o s:Nat}(h:s∈(setCells cs o xs).flatMap C.ids):s∈cs.flatMap C.ids\/s∈xs.flatMap C.ids:=by
 obtain ⟨c,hc,hs⟩:=List.mem_flatMap.1 h
 simp only [setCells,List.mem_append] at hc
 rcases hc with (hc|hc)|hc
 ·exact .inl (fY (List.mem_of_mem_take hc) hs)
 ·exact .inr (fY hc hs)
 ·exact .inl (fY (List.mem_of_mem_drop hc) hs)
theorem kN {vs xs:List Value}{o:Nat}(h:o+xs.length<=vs.length):af vs o xs=vs.take o++xs++vs.drop (o+xs.length):=by
 unfold af
 split
 ·rename_i x
  have:o<vs.length:=by simp at h;omega
  rw [List.set_eq_take_append_cons_drop,if_pos this]
  simp
 ·rfl
theorem SV.pW {x:SV}{s:Nat}(ht:x.tD=false):s∈x.cells.flatMap C.ids->s∈x.ids:=by
 cases x with
 | c c=>simp [SV.cells,SV.ids]
 | agg cs=>exact id
 | oh xs=>cases ht
theorem B_ (hM:Mod n V0 br β0 st β a w V){t:TypeId}{i:TI}(hi:kE P t=some i){av xv:SV}(hx:Live st xv){sc:List Prop}{s:Nat}{b:aO}
  (h:fG st.boxes i av xv=.rB sc s b)(hsc:∀p∈sc,p) :
  ∃w',(Instr.storeAt t (av.den β) (xv.den β)).run P w=.ok () w'/\Mod n V0 br β0 (st.box s b) β a w' V:=by
 obtain ⟨info,d,z,h1,h2,h3,h4,h5,-⟩:=aC hi
 unfold fG at h
 split at h
 ·rename_i g o
  split at h
  ·rename_i hcond
   simp only [Bool.and_eq_true,beq_eq,Bool.not_eq_eq_eq_not] at hcond
   obtain ⟨hlen,hnt⟩:=hcond
   have core:∀(old:List Value)(ty:TypeId)(nb:aO),w.heap[β g]?=some (.cells old.toArray ty (0,0))->(∀p∈xv.dW,p)->o+xv.cells.length<=old.length->nb.ty=ty ->
     nb.cs.den β=old.take o++xv.cells.map (C.den β)++old.drop (o+xv.cells.length) ->
     ∃w',(Instr.storeAt t (SV.den β (.c (.ptr g o))) (xv.den β)).run P w=.ok () w'/\w'.heap=w.heap.setIfInBounds (β g) (nb.obj β)/\w'.os=w.os/\w'.tape=w.tape/\w'.output=w.output:=by
    intro old ty nb hrow hone hle hty hden
    obtain ⟨hc1,hc2⟩:=SV.pV (β:=β) hnt hone
    have key:=run_storeCells_at (P:=P) (β g) o ty (xv.cells.map (C.den β)) 0 old.toArray w hrow (by simpa using hle) hc2
    refine ⟨w.setRow (β g) (old.take o++xv.cells.map (C.den β)++old.drop (o+xv.cells.length)).toArray,?_,?_⟩
    ·generalize xv.den β=v at hc1
     show (Instr.storeAt t (.pointer (some ⟨β g,o,none⟩)) v).run P w=_
     simp only [Instr.storeAt,Instr.sureAddr,Sem.run_bind,Sem.run_pure,Result.andThen_ok,storeVar,aL h1,hc1]
     simp [hlen,h5]
     simpa [hlen,h5] using key
    ·exact ⟨by rw [iA hrow,aO.obj,hden,hty],rfl,rfl,rfl⟩
   split at h
   ·rename_i cs ty hb
    split at h
    ·rename_i hl
     have hl:=Nat.le_of_ble_eq_true hl
     simp only [Q.rB.injEq] at h;obtain ⟨rfl,rfl,rfl⟩:=h
     have hrow:=hM.row hb cA
     obtain ⟨w',hr,k1,k2,k3,k4⟩:=core _ _ ⟨.lit (setCells cs o xv.cells),ty⟩ hrow hsc (by simpa [Cells.den,hlen] using hl) rfl (by simp only [Cells.den];exact oY)
     refine ⟨w',hr,hM.rB hb cA ?_ k1 k2 k3 k4⟩
     intro s' hs'
     rcases oX hs' with h'|h'
     ·exact hM.vN _ _ hb s' h'
     ·exact hx s' (SV.pW hnt h')
    ·cases h
   ·rename_i vs ty hb
    split at h
    ·rename_i xs hxs
     simp only [Q.rB.injEq] at h;obtain ⟨rfl,rfl,rfl⟩:=h
     have hrow:=hM.row hb b_
     obtain ⟨hd1,hd2⟩:=eK (β:=β) hxs
     have hle:o+i.size<=vs.length:=hsc _ (by simp)
     have hxl:xs.length=i.size:=by rw [←hd1,List.length_map,hlen]
     obtain ⟨w',hr,k1,k2,k3,k4⟩:=core _ _ ⟨.row (af vs o xs),ty⟩ hrow (fun p hp=>hsc p (List.mem_append_left _ hp)) (by simpa [Cells.den,hlen] using hle) rfl (by
      simp only [Cells.den];rw [kN (by omega),hd1,hlen,hxl])
     exact ⟨w',hr,hM.rB hb b_ (by intro s' hs';simp [Cells.ids] at hs') k1 k2 k3 k4⟩
    ·cases h
   ·rename_i vs ty hb
    split at h
    ·cases h
    rename_i hz
    split at h
    ·rename_i xs hxs
     simp only [Q.rB.injEq] at h;obtain ⟨rfl,rfl,rfl⟩:=h
     obtain ⟨hd1,hd2⟩:=eK (β:=β) hxs
     have hle:o+i.size<=vs.length:=hsc _ (by simp)
     have hlv:aO.live ⟨.bf vs,ty⟩:=eG fun e=>by
      subst e
      simp at hle
      exact hz (by rw [hle.2];rfl)
     have hrow:=hM.row hb hlv
     have hxl:xs.length=i.size:=by rw [←hd1,List.length_map,hlen]
     obtain ⟨w',hr,k1,k2,k3,k4⟩:=core _ _ ⟨.bf (af vs o xs),ty⟩ hrow (fun p hp=>hsc p (List.mem_append_left _ hp)) (by simpa [Cells.den,hlen] using hle) rfl (by
      simp only [Cells.den];rw [kN (by omega),hd1,hlen,hxl])
     exact ⟨w',hr,hM.rB hb hlv (by intro s' hs';simp [Cells.ids] at hs') k1 k2 k3 k4⟩
    ·cases h
   ·cases h
  ·cases h
 ·cases h
end Go.bF
namespace Go.bF
variable {P:Program} {T:cG} {n:Nat} {V0:View} {br:Bf} {β0:Nat->Nat} {st:St} {β:Nat->Nat} {a:Act} {w:World} {V:View}
theorem DM (xs:List Value):∀(cs:Array Value)(off:Nat),off+xs.length<=cs.size ->
  (xs.toArray.zipIdx.foldl (fun cs (p:Value×Nat)=>cs.setIfInBounds (off+p.2) p.1) cs)=(cs.toList.take off++xs++cs.toList.drop (off+xs.length)).toArray:=by
 have gen:∀(xs:List Value)(k:Nat)(cs:List Value)(off:Nat),off+k+xs.length<=cs.length ->
   (xs.zipIdx k).foldl (fun (cs:Array Value) (p:Value×Nat)=>cs.setIfInBounds (off+p.2) p.1) cs.toArray=(cs.take (off+k)++xs++cs.drop (off+k+xs.length)).toArray:=by
  intro xs
  induction xs with
  | nil=>intro k cs off _;simp
  | cons x r ih=>
   intro k cs off h
   simp only [List.length_cons] at h
   simp only [List.zipIdx_cons,List.foldl_cons,List.setIfInBounds_toArray]
   rw [ih (k+1) (cs.set (off+k) x) off (by simp;omega)]
   congr 1
   have hlt:off+k<cs.length:=by omega
   rw [List.set_eq_take_append_cons_drop,if_pos hlt]
   have e1:(cs.take (off+k)++x::cs.drop (off+k+1)).take (off+(k+1))=cs.take (off+k)++[x]:=by
    rw [List.take_append,List.take_of_length_le (by simp;omega),List.length_take,Nat.min_eq_left (by omega),show off+(k+1)-(off+k)=1 from by omega]
    simp
   have e2:(cs.take (off+k)++x::cs.drop (off+k+1)).drop (off+(k+1)+r.length)=cs.drop (off+k+(r.length+1)):=by
    rw [List.drop_append,List.drop_of_length_le (by simp;omega),List.length_take,Nat.min_eq_left (by omega),show off+(k+1)+r.length-(off+k)=r.length+1 from by omega]
    simp only [List.nil_append,List.drop_succ_cons,List.drop_drop]
    congr 1;omega
   rw [e1,e2]
   simp
 intro cs off h
 have:=gen xs 0 cs.toList off (by simpa using h)
 simpa [←Array.foldl_toList] using this
theorem mB {place:Nat->Option (Nat×Nat)}:∀(ps:List (Nat×SV))(cells out:List C),mU place cells ps=some out ->
  (∀x∈ps,∀v:C,v∈x.2.cells->∀p∈dW v,p) ->
  Instr.fill place (cells.map (C.den β)).toArray (ps.map fun x=>(x.1,x.2.den β))=some (out.map (C.den β)).toArray /\
  (∀s∈out.flatMap C.ids,s∈cells.flatMap C.ids\/∃x∈ps,s∈x.2.ids)
 | [],cells,out,h,_=>by
  simp only [mU,Option.some.injEq] at h;subst h
  exact ⟨rfl,fun s hs=>.inl hs⟩
 | (i,x)::r,cells,out,h,hone=>by
  simp only [mU] at h
  split at h
  ·cases h
  ·rename_i off size hp
   split at h
   ·rename_i hc
    simp only [Bool.and_eq_true,beq_eq,Bool.not_eq_eq_eq_not] at hc
    obtain ⟨⟨hl,hle⟩,hnt⟩:=hc
    have hle:=Nat.le_of_ble_eq_true hle
    have hnt:x.tD=false:=by simpa using hnt
    have h1:∀p∈x.dW,p:=fun p hp=>by
     obtain ⟨v,hv,hp⟩:=List.mem_flatMap.1 hp
     exact hone (i,x) (by simp) v hv p hp
    obtain ⟨hc1,-⟩:=SV.pV (β:=β) hnt h1
    obtain ⟨k1,k2⟩:=mB r _ _ h (fun y hy=>hone y (List.mem_cons_of_mem _ hy))
    refine ⟨?_,?_⟩
    ·simp only [List.map_cons,Instr.fill,hp]
     rw [if_neg (by rw [hc1];simp [hl];omega)]
     rw [hc1]
     have:=DM (x.cells.map (C.den β)) (cells.map (C.den β)).toArray off (by simpa [hl] using hle)
     rw [this]
     rw [←k1,oY]
     simp
    ·intro s hs
     rcases k2 s hs with h'|⟨y,hy,h'⟩
     ·rcases oX h' with h''|h''
      ·exact .inl h''
      ·exact .inr ⟨(i,x),by simp,SV.pW hnt h''⟩
     ·exact .inr ⟨y,List.mem_cons_of_mem _ hy,h'⟩
   ·cases h
theorem i_ (hM:Mod n V0 br β0 st β a w V):∀(l:List (Nat×Operand))(ps:List (Nat×SV)),partsOf st.aW l=some ps ->
  (l.map fun x=>(x.1,a.eval x.2))=(ps.map fun x=>(x.1,x.2.den β))/\∀x∈ps,Live st x.2
 | [],ps,h=>by simp only [partsOf,Option.some.injEq] at h;subst h;exact ⟨rfl,fun x hx=>by cases hx⟩
 | (i,o)::r,ps,h=>by
  simp only [partsOf] at h
  split at h
  ·rename_i x l hx hl
   simp only [Option.some.injEq] at h;subst h
   obtain ⟨h1,h2⟩:=i_ hM r l hl
   refine ⟨by simp [h1,hM.eval hx],fun y hy=>?_⟩
   rcases List.mem_cons.1 hy with rfl|hy
   ·exact hM.live hx
   ·exact h2 y hy
  ·cases h
theorem eH (hM:Mod n V0 br β0 st β a w V):∀(l:List Operand)(xs:List SV),bS st.aW l=some xs ->
  l.map a.eval=xs.map (SV.den β)/\∀x∈xs,Live st x
 | [],xs,h=>by simp only [bS,Option.some.injEq] at h;subst h;exact ⟨rfl,fun x hx=>by cases hx⟩
 | o::r,xs,h=>by
  simp only [bS] at h
  split at h
  ·rename_i x l hx hl
   simp only [Option.some.injEq] at h;subst h
   obtain ⟨h1,h2⟩:=eH hM r l hl
   refine ⟨by simp [h1,hM.eval hx],fun y hy=>?_⟩
   rcases List.mem_cons.1 hy with rfl|hy
   ·exact hM.live hx
   ·exact h2 y hy
  ·cases h
theorem kT (hT:cG.ok P T):∀(gs:List Field)(pl:List (Nat×Nat)),eB T (gs.map fun f=>(f.type,f.offset))=some pl ->
  ∀w:World,(gs.mapM fun f:Field=>do pure (f.offset,←sizeOf f.type)).run P w=.ok pl w
 | [],pl,h,w=>by simp only [List.map_nil,eB,Option.some.injEq] at h;subst h;simp
 | f::r,pl,h,w=>by
  simp only [List.map_cons,eB] at h
  split at h
  ·rename_i i l hi hl
   simp only [Option.some.injEq] at h;subst h
   obtain ⟨info,d,z,h1,h2,h3,h4,h5,-⟩:=aC (hT _ _ hi)
   have:=kT hT r l hl w
   simp only [bind_pure_comp] at this
   simp [List.mapM_cons,aL h1,this,h5]
  ·cases h
theorem dw {i:TI}{z:Value}(h:i.zero=z.cells.toList.map C.ofConst):(i.zero.map (C.den β)).toArray=z.cells/\i.zero.flatMap C.ids=[]:=by
 rw [h]
 exact ⟨by rw [Aa],xS _⟩
theorem x_ {ps:List (Nat×SV)}(h:∀p∈ps.flatMap (fun x=>x.2.dW),p):∀x∈ps,∀v:C,v∈x.2.cells->∀p∈dW v,p:=
 fun x hx v hv p hp=>h p (List.mem_flatMap.2 ⟨x,hx,List.mem_flatMap.2 ⟨v,hv,hp⟩⟩)
theorem parts_eq {parts:Array (Nat×Operand)}{ps:List (Nat×SV)}(h:(parts.toList.map fun x=>(x.1,a.eval x.2))=(ps.map fun x=>(x.1,x.2.den β))) :
  (parts.map fun x=>(x.1,a.eval x.2)).toList=ps.map fun x=>(x.1,x.2.den β):=by rw [Array.toList_map];exact h
theorem xz (hT:cG.ok P T)(hM:Mod n V0 br β0 st β a w V){t:TypeId}{i:TI}(hi:kE P t=some i){fs:List (TypeId×Nat)}(hk:i.k=.struct fs)
  {parts:Array (Nat×Operand)}{ps:List (Nat×SV)}(hp:partsOf st.aW parts.toList=some ps){pl:List (Nat×Nat)}(hpl:eB T fs=some pl)
  {cs:List C}(hf:mU (fun j=>pl[j]?) i.zero ps=some cs)(hsc:∀p∈ps.flatMap (fun x=>x.2.dW),p) :
  (Instr.build t (parts.map fun x=>(x.1,a.eval x.2))).run P w=.ok (SV.den β (.agg cs)) w/\Live st (.agg cs):=by
 obtain ⟨info,d,z,h1,h2,h3,h4,h5,h6,h7⟩:=aC hi
 obtain ⟨q1,q2⟩:=i_ hM _ _ hp
 rw [h4] at hk
 obtain ⟨gs,rfl,rfl⟩:=ie hk
 obtain ⟨z1,z2⟩:=dw (β:=β) h7
 obtain ⟨f1,f2⟩:=mB (β:=β) _ _ _ hf (x_ hsc)
 have hm:=kT hT gs.toList pl hpl w
 refine ⟨?_,?_⟩
 ·have Hk:(gs.mapM fun f:Field=>do pure (f.offset,←sizeOf f.type)).run P w=.ok pl.toArray w:=by
   rw [Array.mapM_eq_mapM_toList]
   simp only [Sem.run_map,hm,Result.andThen_ok]
  simp only [Instr.build,Sem.run_bind,gU h1 h3,Result.andThen_ok,ao h2,Hk]
  rw [parts_eq q1,←z1]
  have:(fun j:Nat=>pl.toArray[j]?)=fun j:Nat=>pl[j]?:=by funext j;simp
  rw [this,f1]
  rfl
 ·intro s hs
  rcases f2 s hs with h|⟨x,hx,h⟩
  ·rw [z2] at h;cases h
  ·exact q2 x hx s h
theorem zh (hT:cG.ok P T)(hM:Mod n V0 br β0 st β a w V){t:TypeId}{i:TI}(hi:kE P t=some i){m:Nat}{e:TypeId}(hk:i.k=.arr m e)
  {parts:Array (Nat×Operand)}{ps:List (Nat×SV)}(hp:partsOf st.aW parts.toList=some ps){ei:TI}(he:aA T e=some ei)
  {cs:List C}(hf:mU (fun j=>some (j*ei.size,ei.size)) i.zero ps=some cs)(hsc:∀p∈ps.flatMap (fun x=>x.2.dW),p) :
  (Instr.build t (parts.map fun x=>(x.1,a.eval x.2))).run P w=.ok (SV.den β (.agg cs)) w/\Live st (.agg cs):=by
 obtain ⟨info,d,z,h1,h2,h3,h4,h5,h6,h7⟩:=aC hi
 obtain ⟨fW,ed,ez,e1,e2,e3,e4,e5,e6,e7⟩:=aC (hT _ _ he)
 obtain ⟨q1,q2⟩:=i_ hM _ _ hp
 rw [h4] at hk
 obtain rfl:=lG hk
 obtain ⟨z1,z2⟩:=dw (β:=β) h7
 obtain ⟨f1,f2⟩:=mB (β:=β) _ _ _ hf (x_ hsc)
 refine ⟨?_,?_⟩
 ·simp only [Instr.build,Sem.run_bind,gU h1 h3,Result.andThen_ok,ao h2,aL e1]
  rw [parts_eq q1,←z1,←e5,f1]
  rfl
 ·intro s hs
  rcases f2 s hs with h|⟨x,hx,h⟩
  ·rw [z2] at h;cases h
  ·exact q2 x hx s h
theorem D6 {α:Type}[Inhabited α](zs:List α)(m:Nat):((List.range (m*zs.length)).map fun j=>zs.toArray[j%zs.length]!)=(List.replicate m zs).flatten:=by
 induction m with
 | zero=>simp
 | succ m ih=>
  rw [List.replicate_succ',List.flatten_append,←ih,Nat.succ_mul,List.range_add,List.map_append]
  congr 1
  simp only [List.flatten_cons,List.flatten_nil,List.append_nil,List.map_map]
  apply List.ext_getElem?
  intro j
  rw [List.getElem?_map]
  by_cases hj:j<zs.length
  ·rw [List.getElem?_range hj]
   simp only [Option.map_some,Function.comp]
   rw [Nat.add_comm,Nat.add_mul_mod_self_right,Nat.mod_eq_of_lt hj]
   simp [hj]
  ·rw [List.getElem?_eq_none (by simp;omega),List.getElem?_eq_none (by omega)];rfl
theorem HL (m:Nat)(zs:List C):(rep m zs).map (C.den β)=(List.replicate m (zs.map (C.den β))).flatten:=by
 unfold rep;rw [List.map_flatten,List.map_replicate]
theorem HK {m:Nat}{zs:List C}(h:zs.flatMap C.ids=[]):(rep m zs).flatMap C.ids=[]:=by
 unfold rep
 induction m with
 | zero=>rfl
 | succ m ih=>rw [List.replicate_succ,List.flatten_cons,List.flatMap_append,h,ih];rfl
theorem mL (m:Nat)(zs:List Value):pF m zs=(List.replicate m zs).flatten:=by
 unfold pF
 split
 ·rename_i z
  induction m with
  | zero=>rfl
  | succ m ih=>rw [List.replicate_succ,List.replicate_succ,List.flatten_cons,ih];rfl
 ·rfl
theorem pM {z:Value}{m:Nat}(k:Nat)(hk:k=m*z.cells.size) :
  ((Array.range k).map fun j=>z.cells[j%z.cells.size]!)=((List.replicate m z.cells.toList).flatten).toArray:=by
 apply Array.ext'
 rw [Array.toList_map,Array.toList_range]
 subst hk
 have:=D6 z.cells.toList m
 simpa using this
theorem sE {z:Value}{m:Nat}(h0:m*z.cells.size=0):(List.replicate m z.cells.toList).flatten=[]:=by
 rcases Nat.mul_eq_zero.1 h0 with h|h
 ·subst h;rfl
 ·have:z.cells.toList=[]:=by
   have:z.cells.toList.length=0:=by simpa using h
   exact List.length_eq_zero_iff.1 this
  rw [this];simp
theorem FY:Array.range 0=#[]:=rfl
theorem sG (hT:cG.ok P T)(hM:Mod n V0 br β0 st β a w V){t:TypeId}{i:TI}(hi:kE P t=some i){e:TypeId}(hk:i.k=.slice e){len:Nat}
  {parts:Array (Nat×Operand)}{ps:List (Nat×SV)}(hp:partsOf st.aW parts.toList=some ps){ei:TI}(he:aA T e=some ei)
  (hlen:len*ei.size<=16777216)(hzl:ei.zero.length=ei.size)(hz0:ei.size≠0)
  {cs:List C}(hf:mU (fun j=>some (j*ei.size,ei.size)) (rep len ei.zero) ps=some cs)(hsc:∀p∈ps.flatMap (fun x=>x.2.dW),p) :
  (Instr.buildSlice t len (parts.map fun x=>(x.1,a.eval x.2))).run P w=.ok (.slice (some ⟨w.heap.size,0,none⟩) len len) (w.alloc (aO.obj β ⟨.lit cs,e⟩)) /\
  ∀s∈cs.flatMap C.ids,∃b,st.boxes s=some b:=by
 obtain ⟨info,d,z,h1,h2,h3,h4,h5,h6,h7⟩:=aC hi
 obtain ⟨fW,ed,ez,e1,e2,e3,e4,e5,e6,e7⟩:=aC (hT _ _ he)
 obtain ⟨q1,q2⟩:=i_ hM _ _ hp
 rw [h4] at hk
 obtain rfl:=aR hk
 obtain ⟨z1,z2⟩:=dw (β:=β) e7
 obtain ⟨f1,f2⟩:=mB (β:=β) _ _ _ hf (x_ hsc)
 have hzs:ez.cells.size=fW.size:=by rw [←z1];simp [hzl,e5]
 refine ⟨?_,?_⟩
 ·have hr2:((List.replicate len ez.cells.toList).flatten).toArray=((rep len ei.zero).map (C.den β)).toArray:=by
   rw [HL,←z1]
  have hn:¬len*fW.size>2^24:=by rw [←e5];simpa using hlen
  simp only [Instr.buildSlice,Sem.run_bind,ao h2,Result.andThen_ok,aL e1,Sem.run_ite,if_neg hn]
  by_cases h0:len*fW.size=0
  ·have hr:=sE (z:=ez) (m:=len) (by rw [hzs];exact h0)
   rw [hr] at hr2
   simp only [h0,if_true,Sem.run_pure,Result.andThen_ok,FY,Array.map_empty,←hr2] at f1 ⊢
   rw [parts_eq q1,←e5]
   have Jk:Instr.fill (fun j=>some (j*ei.size,ei.size)) #[] (ps.map fun x=>(x.1,x.2.den β))=some (cs.map (C.den β)).toArray:=f1
   rw [Jk]
   simp only [Sem.run_bind,newRow,run_newObj,Result.andThen_ok,Sem.run_pure]
   rfl
  ·simp only [h0,if_false,gU e1 e3,Sem.run_pure,Result.andThen_ok]
   rw [pM (z:=ez) (m:=len) (len*fW.size) (by rw [hzs]),hr2,parts_eq q1,←e5,f1]
   simp only [Sem.run_bind,newRow,run_newObj,Result.andThen_ok,Sem.run_pure]
   rfl
 ·intro s hs
  rcases f2 s hs with h|⟨x,hx,h⟩
  ·rw [HK z2] at h;cases h
  ·exact q2 x hx s h
theorem xn {x:Int}(h0:0<=x)(h1:x<9223372036854775808):i64.wrap x=x:=by
 unfold IntKind.wrap IntKind.bits IntKind.signed
 simp
 omega
theorem vk (hT:cG.ok P T){t:TypeId}{i:TI}(hi:kE P t=some i){e:TypeId}(hk:i.k=.slice e){ei:TI}(he:aA T e=some ei)
  {k1 k2:IntKind}{l c:Int}(hb:ei.bytes≠0)(hs:ei.size≠0){zs:List Value}(hz:j9 ei.zero=some zs)(hzl:ei.size=zs.length)
  (c1:0<=l)(c2:l<=c)(c3:(ei.bytes:Int)*c<=140737488355328) :
  (Instr.makeSlice t (.int k1 l) (.int k2 c)).run P w=.ok (.slice (some ⟨w.heap.size,0,none⟩) l.toNat c.toNat) (w.alloc (aO.obj β ⟨.row (pF c.toNat zs),e⟩)):=by
 obtain ⟨info,d,z,h1,h2,h3,h4,h5,h6,h7⟩:=aC hi
 obtain ⟨fW,ed,ez,e1,e2,e3,e4,e5,e6,e7⟩:=aC (hT _ _ he)
 rw [h4] at hk
 obtain rfl:=aR hk
 obtain ⟨z1,z2⟩:=dw (β:=β) e7
 obtain ⟨d1,-⟩:=eK (β:=β) hz
 have hzs:ez.cells.size=fW.size:=by rw [←z1,d1];simp [←hzl,e5]
 have hbig:c<=140737488355328:=by
  have:1<=(ei.bytes:Int):=by omega
  have:=Int.mul_le_mul_of_nonneg_right this (by omega:0<=c)
  omega
 have w1:i64.wrap l=l:=xn c1 (by omega)
 have w2:i64.wrap c=c:=xn (by omega) (by omega)
 rw [e6] at c3
 have t1:(decide (c<0)||decide ((fW.bytes:Int)*c>2^48))=false:=by
  rw [show ((2:Int)^48)=281474976710656 from by decide]
  simp;omega
 have t2:decide (l<0)=false:=by simp;omega
 have t3:decide (l>c)=false:=by simp;omega
 have hrow:(List.replicate c.toNat ez.cells.toList).flatten=pF c.toNat zs:=by rw [mL,←d1,←z1]
 simp only [Instr.makeSlice,Sem.run_bind,ao h2,Result.andThen_ok,jt e1,asInt,asIntOf,Sem.run_pure,w1,w2,t1,t2,t3,Bool.or_self,Bool.false_eq_true,if_false,run_askRoom,aL e1,Sem.run_ite]
 by_cases h0:c.toNat*fW.size=0
 ·have hr:=sE (z:=ez) (m:=c.toNat) (by rw [hzs];exact h0)
  rw [hr] at hrow
  simp only [h0,if_true,Sem.run_bind,Sem.run_pure,Result.andThen_ok,FY,Array.map_empty,newRow,run_newObj,←hrow]
  rfl
 ·simp only [h0,if_false,gU e1 e3,Result.andThen_ok]
  rw [pM (z:=ez) (m:=c.toNat) (c.toNat*fW.size) (by rw [hzs]),hrow]
  simp only [Sem.run_bind,newRow,run_newObj,Result.andThen_ok,Sem.run_pure]
  rfl
end Go.bF
namespace Go.bF
variable {P:Program} {T:cG} {n:Nat} {V0:View} {br:Bf} {β0:Nat->Nat} {st:St} {β:Nat->Nat} {a:Act} {w:World} {V:View}
theorem zK {gs:Array Field}{f ft off:Nat}(h:(gs.toList.map fun f=>(f.type,f.offset))[f]?=some (ft,off)):∃GC,gs[f]?=some GC/\GC.type=ft/\GC.offset=off:=by
 rw [List.getElem?_map] at h
 cases hg:gs.toList[f]? with
 | none=>rw [hg] at h;cases h
 | some GC=>
  rw [hg] at h
  simp only [Option.map_some,Option.some.injEq,Prod.mk.injEq] at h
  exact ⟨GC,by simpa using hg,h.1,h.2⟩
theorem qK (hT:cG.ok P T){t:TypeId}{i:TI}(hi:kE P t=some i){fs:List (TypeId×Nat)}(hk:i.k=.struct fs){f ft off:Nat}(hf:fs[f]?=some (ft,off))
  {fi:TI}(hfi:aA T ft=some fi)(hs:fi.size≠0)(ad:Addr):(Instr.fieldAt t (.pointer (some ad)) f).run P w=.ok (.pointer (some (ad.add off))) w:=by
 obtain ⟨info,d,z,h1,h2,h3,h4,h5,h6,h7⟩:=aC hi
 obtain ⟨Sc,fd,fz,e1,e2,e3,e4,e5,e6,e7⟩:=aC (hT _ _ hfi)
 rw [h4] at hk
 obtain ⟨gs,rfl,rfl⟩:=ie hk
 obtain ⟨GC,k1,rfl,rfl⟩:=zK hf
 simp only [Instr.fieldAt,Sem.run_bind,ao h2,Result.andThen_ok,k1,Instr.sureAddr,Sem.run_pure,fieldPlace,aL e1]
 rw [Sem.run_ite,if_neg (by omega)]
 rfl
theorem Ai {t:TypeId}{i:TI}(hi:kE P t=some i)(cs:List C)(off:Nat) :
  (pK i.k=true->(part t (cs.map (C.den β)).toArray off).run P w=.ok (SV.den β (.agg ((cs.drop off).take i.size))) w) /\
  (∀c,pK i.k=false->cs[off]?=some c->(part t (cs.map (C.den β)).toArray off).run P w=.ok (c.den β) w):=by
 obtain ⟨info,d,z,h1,h2,h3,h4,h5,h6,h7⟩:=aC hi
 refine ⟨fun hk=>?_,fun c hk hc=>?_⟩
 ·rw [h4] at hk
  simp only [part,Sem.run_bind,fI h2,Result.andThen_ok,hk,if_true,aL h1,Sem.run_pure,SV.den]
  congr 2
  apply Array.ext'
  rw [←h5]
  simp [List.map_take,List.map_drop,List.extract,List.take_drop]
 ·rw [h4] at hk
  simp [part,fI h2,hk,hc]
theorem DJ (hT:cG.ok P T){t:TypeId}{i:TI}(hi:kE P t=some i){fs:List (TypeId×Nat)}(hk:i.k=.struct fs){f ft off:Nat}(hf:fs[f]?=some (ft,off))
  {fi:TI}(hfi:aA T ft=some fi){cs:List C} :
  (pK fi.k=true->(Instr.field t (SV.den β (.agg cs)) f).run P w=.ok (SV.den β (.agg ((cs.drop off).take fi.size))) w) /\
  (∀c,pK fi.k=false->cs[off]?=some c->(Instr.field t (SV.den β (.agg cs)) f).run P w=.ok (c.den β) w):=by
 obtain ⟨info,d,z,h1,h2,h3,h4,h5,h6,h7⟩:=aC hi
 rw [h4] at hk
 obtain ⟨gs,rfl,rfl⟩:=ie hk
 obtain ⟨GC,k1,rfl,rfl⟩:=zK hf
 have hp:=Ai (w:=w) (β:=β) (hT _ _ hfi) cs GC.offset
 have hr:∀r,(part GC.type (cs.map (C.den β)).toArray GC.offset).run P w=r->(Instr.field t (SV.den β (.agg cs)) f).run P w=r:=by
  intro r hr
  simp only [Instr.field,Sem.run_bind,ao h2,Result.andThen_ok,k1,asAgg,SV.den,Sem.run_pure,hr]
 exact ⟨fun h=>hr _ (hp.1 h),fun c h hc=>hr _ (hp.2 c h hc)⟩
theorem eA (k:IntKind)(x:Int):(asIntOf (.int k x)).run P w=.ok (k,x) w:=rfl
theorem t_ (hT:cG.ok P T){t:TypeId}{i:TI}(hi:kE P t=some i){x ix:SV}{sc:List Prop}{v:SV}(h:fF T i x ix=.ret sc v)(hsc:∀p∈sc,p) :
  (Instr.indexAt t (x.den β) (ix.den β)).run P w=.ok (v.den β) w/\∀s∈v.ids,s∈x.ids:=by
 obtain ⟨info,d,z,h1,h2,h3,h4,h5,h6,h7⟩:=aC hi
 unfold fF at h
 split at h
 ·rename_i k m
  split at h
  ·rename_i e hk
   rw [h4] at hk
   obtain rfl:=aR hk
   split at h
   ·rename_i ei he
    obtain ⟨fW,ed,ez,e1,e2,e3,e4,e5,e6,e7⟩:=aC (hT _ _ he)
    split at h
    ·rename_i ad len c
     simp only [Q.ret.injEq] at h;obtain ⟨rfl,rfl⟩:=h
     have c1:=hsc (ad.isSome=true) (by simp)
     have c2:=hsc (0<=m/\m<(len:Int)) (by simp)
     obtain ⟨p,rfl⟩:=Option.isSome_iff_exists.1 c1
     refine ⟨?_,fun s hs=>hs⟩
     simp [Instr.indexAt,SV.den,C.den,eA,ao h2,c2,aL e1,ah,e5]
    ·rename_i s o len c
     simp only [Q.ret.injEq] at h;obtain ⟨rfl,rfl⟩:=h
     have c2:=hsc (0<=m/\m<(len:Int)) (by simp)
     refine ⟨?_,fun s hs=>by simpa [SV.ids,C.ids] using hs⟩
     simp [Instr.indexAt,SV.den,C.den,eA,ao h2,c2,aL e1,eO,e5]
    ·rename_i s len c
     simp only [Q.ret.injEq] at h;obtain ⟨rfl,rfl⟩:=h
     have c2:=hsc (0<=m/\m<(len:Int)) (by simp)
     have c3:=hsc (len<=c) (by simp)
     refine ⟨?_,fun s hs=>by simpa [SV.ids,C.ids] using hs⟩
     have e0:mA (β s) c=some ⟨β s,0,none⟩:=by unfold mA;rw [if_neg (by omega)]
     simp [Instr.indexAt,SV.den,C.den,eA,ao h2,c2,aL e1,eO,e5,e0]
    ·cases h
   ·cases h
  ·rename_i len e hk
   rw [h4] at hk
   obtain rfl:=lG hk
   split at h
   ·rename_i ei he
    obtain ⟨fW,ed,ez,e1,e2,e3,e4,e5,e6,e7⟩:=aC (hT _ _ he)
    split at h
    ·rename_i s o
     simp only [Q.ret.injEq] at h;obtain ⟨rfl,rfl⟩:=h
     have c2:=hsc (0<=m/\m<(len:Int)) (by simp)
     refine ⟨?_,fun s hs=>by simpa [SV.ids,C.ids] using hs⟩
     simp [Instr.indexAt,Instr.sureAddr,SV.den,C.den,eA,ao h2,c2,aL e1,eO,e5]
    ·cases h
   ·cases h
  ·cases h
 ·cases h
theorem Dv {k:IntKind}{x:Int}{y:Nat}(code:BoundsCode)(h:0<=x/\x<=(y:Int)):(Instr.sliceBound (.int k x) y code).run P w=.ok x.toNat w:=by
 simp [Instr.sliceBound,eA,h]
theorem gg {len c:Nat}{lo hi mx:Option SV}{sc:List Prop}{l:Option Nat}{h m:Nat}(hq:mH len c lo hi mx=some (sc,l,h,m))(hsc:∀p∈sc,p) :
  (Instr.sliceBounds true len c (lo.map (SV.den β)) (hi.map (SV.den β)) (mx.map (SV.den β))).run P w=.ok (l.getD 0,h,m) w:=by
 unfold mH at hq
 cases ht:HF c mx with
 | none=>rw [ht] at hq;cases hq
 | some t=>
  obtain ⟨p1,m'⟩:=t
  rw [ht] at hq
  dsimp only at hq
  cases hh:FQ len m' hi mx with
  | none=>rw [hh] at hq;cases hq
  | some t=>
   obtain ⟨p2,h'⟩:=t
   rw [hh] at hq
   dsimp only at hq
   cases hl:J3 h' lo with
   | none=>rw [hl] at hq;cases hq
   | some t=>
    obtain ⟨p3,l'⟩:=t
    rw [hl] at hq
    simp only [Option.some.injEq,Prod.mk.injEq] at hq
    obtain ⟨rfl,rfl,rfl,rfl⟩:=hq
    have hm:((mx=none/\m'=c)\/∃k x,mx=some (.c (.v (.int k x)))/\m'=x.toNat/\(0<=x/\x<=(c:Int))):=by
     unfold HF at ht
     split at ht
     ·simp only [Option.some.injEq,Prod.mk.injEq] at ht;exact .inl ⟨rfl,ht.2.symm⟩
     ·rename_i k x
      simp only [Option.some.injEq,Prod.mk.injEq] at ht
      obtain ⟨rfl,rfl⟩:=ht
      exact .inr ⟨k,x,rfl,rfl,hsc _ (by simp)⟩
     ·cases ht
    have hhi:((hi=none/\mx=none/\h'=len)\/∃k x,hi=some (.c (.v (.int k x)))/\h'=x.toNat/\(0<=x/\x<=(m':Int))):=by
     unfold FQ at hh
     split at hh
     ·rename_i k x
      simp only [Option.some.injEq,Prod.mk.injEq] at hh
      obtain ⟨rfl,rfl⟩:=hh
      exact .inr ⟨k,x,rfl,rfl,hsc _ (by simp)⟩
     ·simp only [Option.some.injEq,Prod.mk.injEq] at hh;exact .inl ⟨rfl,rfl,hh.2.symm⟩
     ·cases hh
    have hlo:((lo=none/\l'=none)\/∃k x,lo=some (.c (.v (.int k x)))/\l'=some x.toNat/\(0<=x/\x<=(h':Int))):=by
     unfold J3 at hl
     split at hl
     ·simp only [Option.some.injEq,Prod.mk.injEq] at hl;exact .inl ⟨rfl,hl.2.symm⟩
     ·rename_i k x
      simp only [Option.some.injEq,Prod.mk.injEq] at hl
      obtain ⟨rfl,rfl⟩:=hl
      exact .inr ⟨k,x,rfl,rfl,hsc _ (by simp)⟩
     ·cases hl
    clear ht hh hl hsc
    rcases hm with ⟨rfl,rfl⟩|⟨k1,x1,rfl,rfl,b1⟩<;>rcases hhi with ⟨rfl,hx,rfl⟩|⟨k2,x2,rfl,rfl,b2⟩<;>rcases hlo with ⟨rfl,rfl⟩|⟨k3,x3,rfl,rfl,b3⟩ <;>
     (try cases hx) <;>
     simp only [Instr.sliceBounds,Option.map_none,Option.map_some,SV.den,C.den,Sem.run_bind,Sem.run_pure,Result.andThen_ok,Option.getD_none,Option.getD_some,Option.isSome_none,Option.isSome_some,if_true,Bool.false_eq_true,if_false] <;>
     (repeat (rw [Dv _ (by assumption)];simp only [Result.andThen_ok]))
theorem B9 (hT:cG.ok P T){t:TypeId}{i:TI}(hi:kE P t=some i){e:TypeId}(hk:i.k=.slice e){ei:TI}(he:aA T e=some ei){x:SV}{lo hi' mx:Option SV}{sc:List Prop}{v:SV}
  (h:qj ei.size x lo hi' mx=.ret sc v)(hsc:∀p∈sc,p) :
  (Instr.sliceAt t (x.den β) (lo.map (SV.den β)) (hi'.map (SV.den β)) (mx.map (SV.den β))).run P w=.ok (v.den β) w/\∀s∈v.ids,s∈x.ids:=by
 obtain ⟨info,d,z,h1,h2,h3,h4,h5,h6,h7⟩:=aC hi
 obtain ⟨fW,ed,ez,e1,e2,e3,e4,e5,e6,e7⟩:=aC (hT _ _ he)
 rw [h4] at hk
 obtain rfl:=aR hk
 have add0:∀p:OA,p.map (fun x=>x.add 0)=p:=by intro p;cases p<;>simp [Addr.add]
 unfold qj at h
 split at h
 ·rename_i ad len c
  split at h
  ·rename_i Oe hh m hb
   simp only [Q.ret.injEq] at h;obtain ⟨rfl,rfl⟩:=h
   have:=gg (P:=P) (w:=w) (β:=β) hb hsc
   refine ⟨?_,fun s hs=>hs⟩
   simp only [Instr.sliceAt,Instr.slice,SV.den,C.den,Sem.run_bind,ao h2,Result.andThen_ok,this,aL e1,Sem.run_pure,Option.getD_none,Nat.zero_mul,Nat.sub_zero,add0,ite_self]
  ·rename_i Oe l hh m hb
   simp only [Q.ret.injEq] at h;obtain ⟨rfl,rfl⟩:=h
   have:=gg (P:=P) (w:=w) (β:=β) hb hsc
   refine ⟨?_,fun s hs=>hs⟩
   simp only [Instr.sliceAt,Instr.slice,SV.den,C.den,Sem.run_bind,ao h2,Result.andThen_ok,this,aL e1,Sem.run_pure,Option.getD_some,e5]
   rfl
  ·cases h
 ·rename_i s o len c
  split at h
  ·rename_i Oe hh m hb
   simp only [Q.ret.injEq] at h;obtain ⟨rfl,rfl⟩:=h
   have:=gg (P:=P) (w:=w) (β:=β) hb hsc
   refine ⟨?_,fun s hs=>by simpa [SV.ids,C.ids] using hs⟩
   simp only [Instr.sliceAt,Instr.slice,SV.den,C.den,Sem.run_bind,ao h2,Result.andThen_ok,this,aL e1,Sem.run_pure,Option.getD_none,Nat.zero_mul,Nat.sub_zero,add0,ite_self]
  ·rename_i Oe l hh m hb
   simp only [Q.ret.injEq] at h;obtain ⟨rfl,rfl⟩:=h
   have:=gg (P:=P) (w:=w) (β:=β) hb hsc
   refine ⟨?_,fun s hs=>by simpa [SV.ids,C.ids] using hs⟩
   simp only [Instr.sliceAt,Instr.slice,SV.den,C.den,Sem.run_bind,ao h2,Result.andThen_ok,this,aL e1,Sem.run_pure,Option.getD_some,e5]
   congr 2
   unfold yv
   split<;>simp [eO]
  ·cases h
 ·rename_i s len c
  split at h
  ·split at h
   ·rename_i Oe hh m hb
    simp only [Q.ret.injEq] at h;obtain ⟨rfl,rfl⟩:=h
    have hm:m=c:=by
     unfold mH at hb
     simp only [HF] at hb
     split at hb
     ·cases hb
     ·split at hb
      ·cases hb
      ·simp only [Option.some.injEq,Prod.mk.injEq] at hb;exact hb.2.2.2.symm
    have:=gg (P:=P) (w:=w) (β:=β) hb hsc
    refine ⟨?_,fun s hs=>by simpa [SV.ids,C.ids] using hs⟩
    simp only [Instr.sliceAt,Instr.slice,SV.den,C.den,Sem.run_bind,ao h2,Result.andThen_ok,this,aL e1,Sem.run_pure,Option.getD_none,Nat.zero_mul,Nat.sub_zero,add0,ite_self,hm]
   ·cases h
  ·cases h
 ·cases h
end Go.bF
namespace Go.bF
variable {P:Program} {T:cG} {n:Nat} {V0:View} {br:Bf} {β0:Nat->Nat} {st:St} {β:Nat->Nat} {a:Act} {w:World} {V:View}
theorem c_ {s:Sem Value}{v:Value}{w':World}(h:s.run P w=.ok v w'):(do pure (Next.value (←s)):Sem Next).run P w=.ok (.value v) w':=by
 simp [h]
theorem M7 {s:Sem Unit}{w':World}(h:s.run P w=.ok () w'):(do s;pure Next.skip:Sem Next).run P w=.ok .skip w':=by
 simp [h]
theorem p_ {f:Int->Int->Int}{k:IntKind}{g:Value->Value->Sem Value}(hg:∀x y k',(g (.int k x) (.int k' y))=pure (.int k (f x y))):∀(r:List SV)(x m:Int),foldI f k x r=some m ->
  ((r.map (SV.den β)).foldlM g (.int k x)).run P w=.ok (.int k m) w
 | [],x,m,h=>by simp only [foldI,Option.some.injEq] at h;subst h;rfl
 | y::r,x,m,h=>by
  unfold foldI at h
  split at h
  ·rename_i e;cases e
  ·rename_i k' b r' e
   simp only [List.cons.injEq] at e
   obtain ⟨rfl,rfl⟩:=e
   split at h
   ·simp only [List.map_cons,List.foldlM_cons,SV.den,C.den,hg,pure_bind]
    exact p_ hg r _ m h
   ·cases h
  ·cases h
theorem Dj:∀{cs:List C} {l:List (OA×Nat×Nat)} {k:Nat},Di cs=some l->k<l.length->cs[k]?=some (.v (.slice (l.getD k (none,0,0)).1 (l.getD k (none,0,0)).2.1 (l.getD k (none,0,0)).2.2))
 | [],l,k,h,hk=>by cases h;cases hk
 | c::r,l,k,h,hk=>by
  unfold Di at h
  split at h
  ·cases ‹_=[]›
  ·rename_i p n d r' e
   cases e
   split at h
   ·rename_i l' hl'
    cases h
    cases k with
    | zero=>rfl
    | succ k=>simpa using Dj hl' (by simpa using hk)
   ·cases h
  ·cases h
theorem qI {d:TypeDesc}(h:jw d=.str):d=.string:=by cases d<;>simp_all [jw]
theorem ym {b:Builtin}{xs:List SV}{t:TypeId}{ts:List TypeId}{ty:TypeId}{cs:Array Bool}{i:TI}(hi:kE P t=some i){sc:List Prop}{v:SV}(h:jX b i.k xs=.ret sc v) :
  (builtin b (t::ts).toArray ty cs (xs.map (SV.den β)).toArray).run P w=.ok (.value (v.den β)) w/\v.ids=[]:=by
 obtain ⟨info,d,z,h1,h2,h3,h4,h5,h6,h7⟩:=aC hi
 unfold jX at h
 split at h
 ·cases h
 ·rename_i x r
  split at h
  ·split at h
   ·rename_i e ad m c hk
    rw [h4] at hk
    obtain rfl:=aR hk
    simp only [Q.ret.injEq] at h;obtain ⟨rfl,rfl⟩:=h
    refine ⟨?_,rfl⟩
    simp [builtin,Builtin.len_,ao h2,SV.den,C.den,goInt]
   ·rename_i e s o m c hk
    rw [h4] at hk
    obtain rfl:=aR hk
    simp only [Q.ret.injEq] at h;obtain ⟨rfl,rfl⟩:=h
    refine ⟨?_,rfl⟩
    simp [builtin,Builtin.len_,ao h2,SV.den,C.den,goInt]
   ·rename_i e s m c hk
    rw [h4] at hk
    obtain rfl:=aR hk
    simp only [Q.ret.injEq] at h;obtain ⟨rfl,rfl⟩:=h
    refine ⟨?_,rfl⟩
    simp [builtin,Builtin.len_,ao h2,SV.den,C.den,goInt]
   ·rename_i s hk
    rw [h4] at hk
    obtain rfl:=qI hk
    simp only [Q.ret.injEq] at h;obtain ⟨rfl,rfl⟩:=h
    refine ⟨?_,rfl⟩
    simp [builtin,Builtin.len_,ao h2,SV.den,C.den,goInt]
   ·cases h
  ·split at h
   ·rename_i e ad m c hk
    rw [h4] at hk
    obtain rfl:=aR hk
    simp only [Q.ret.injEq] at h;obtain ⟨rfl,rfl⟩:=h
    refine ⟨?_,rfl⟩
    simp [builtin,Builtin.cap_,ao h2,SV.den,C.den,goInt]
   ·rename_i e s o m c hk
    rw [h4] at hk
    obtain rfl:=aR hk
    simp only [Q.ret.injEq] at h;obtain ⟨rfl,rfl⟩:=h
    refine ⟨?_,rfl⟩
    simp [builtin,Builtin.cap_,ao h2,SV.den,C.den,goInt]
   ·rename_i e s m c hk
    rw [h4] at hk
    obtain rfl:=aR hk
    simp only [Q.ret.injEq] at h;obtain ⟨rfl,rfl⟩:=h
    refine ⟨?_,rfl⟩
    simp [builtin,Builtin.cap_,ao h2,SV.den,C.den,goInt]
   ·cases h
  ·split at h
   ·rename_i k a
    split at h
    ·rename_i m hm
     simp only [Q.ret.injEq] at h;obtain ⟨rfl,rfl⟩:=h
     refine ⟨?_,rfl⟩
     have:=p_ (P:=P) (w:=w) (β:=β) (f:=bO) (k:=k) (g:=Builtin.min2) (fun x y k'=>by simp [Builtin.min2,bO]) r a m hm
     simp [builtin,Builtin.min_,SV.den,C.den] at this ⊢
     rw [this]
     rfl
    ·cases h
   ·cases h
  ·split at h
   ·rename_i k a
    split at h
    ·rename_i m hm
     simp only [Q.ret.injEq] at h;obtain ⟨rfl,rfl⟩:=h
     refine ⟨?_,rfl⟩
     have:=p_ (P:=P) (w:=w) (β:=β) (f:=bN) (k:=k) (g:=Builtin.max2) (fun x y k'=>by simp [Builtin.max2,bN]) r a m hm
     simp [builtin,Builtin.max_,SV.den,C.den] at this ⊢
     rw [this]
     rfl
    ·cases h
   ·cases h
  ·cases h
theorem EV {x:Bool×List C}{y:SV}(h:pX x=some y):gH β x=y.den β/\∀s∈y.ids,s∈x.2.flatMap C.ids:=by
 obtain ⟨b,cs⟩:=x
 cases b with
 | true=>simp only [pX,Option.some.injEq] at h;subst h;exact ⟨rfl,fun s hs=>hs⟩
 | false=>
  match cs,h with
  | [],h=>simp [pX] at h
  | [c],h=>simp only [pX,Option.some.injEq] at h;subst h;exact ⟨rfl,fun s hs=>by simpa [SV.ids] using hs⟩
  | _::_::_,h=>simp [pX] at h
theorem qV:∀(xs:List SV)(ss:List Nat),tX xs=some ss->xs.map (SV.den β)=(ss.map fun s=>Value.pointer (some ⟨β s,0,none⟩))/\∀s∈ss,∃x∈xs,s∈x.ids
 | [],ss,h=>by simp only [tX,Option.some.injEq] at h;subst h;exact ⟨rfl,fun s hs=>by cases hs⟩
 | x::r,ss,h=>by
  unfold tX at h
  split at h
  ·rename_i e;cases e
  ·rename_i s r' e
   simp only [List.cons.injEq] at e
   obtain ⟨rfl,rfl⟩:=e
   split at h
   ·rename_i l hl
    simp only [Option.some.injEq] at h;subst h
    obtain ⟨h1,h2⟩:=qV r l hl
    refine ⟨by simp [h1,SV.den,C.den],fun s' hs'=>?_⟩
    rcases List.mem_cons.1 hs' with rfl|hs'
    ·exact ⟨.c (.ptr s' 0),by simp,by simp [SV.ids,C.ids]⟩
    ·obtain ⟨y,hy,hs'⟩:=h2 s' hs';exact ⟨y,List.mem_cons_of_mem _ hy,hs'⟩
   ·cases h
  ·cases h
theorem tV (hM:Mod n V0 br β0 st β a w V){x:Option Operand}{v:Option SV}(h:ya st.aW x=some v):x.map a.eval=v.map (SV.den β):=by
 cases x with
 | none=>simp only [ya,Option.some.injEq] at h;subst h;rfl
 | some o=>
  simp only [ya] at h
  split at h
  ·rename_i y hy;simp only [Option.some.injEq] at h;subst h;simp [hM.eval hy]
  ·cases h
theorem mD {x y:SV}(hx:Live st x)(h:∀s∈y.ids,s∈x.ids):Live st y:=fun s hs=>hx s (h s hs)
theorem kJ {bx:Nat->Option aO}{t:TypeId}{x:SV}:kI T bx t x=.fail\/∃sc s b,kI T bx t x=.rB sc s b:=by
 unfold kI;split<;>(try split)<;>(try split)<;>(try split)<;>(try split)<;>(try split)<;>first|exact .inl rfl|exact .inr ⟨_,_,_,rfl⟩
theorem B7 {bx:Nat->Option aO}{t:TypeId}{x:SV}{sc:List Prop}{v:SV}(h:kI T bx t x=.ret sc v):False:=by
 rcases kJ (T:=T) (bx:=bx) (t:=t) (x:=x) with e|⟨_,_,_,e⟩<;>rw [e] at h<;>cases h
theorem Al {bx:Nat->Option aO}{e:TypeId}{ei:TI}{b x:SV}{sc:List Prop}{v:SV}(h:bW bx e ei b x=.ret sc v):False:=by
 unfold bW at h
 split at h
 ·cases h
 ·split at h
  ·cases h
  ·dsimp only at h
   split at h
   ·cases h
   ·split at h
    ·cases h
    ·split at h
     ·split at h<;>cases h
     ·cases h
    ·split at h
     ·split at h<;>cases h
     ·cases h
    ·cases h
theorem D3 (hT:cG.ok P T)(hM:Mod n V0 br β0 st β a w V){o:Oper}{sc:List Prop}{v:SV}(h:aI T st.aW st.boxes o.op=.ret sc v)(hsc:∀p∈sc,p) :
  (execOp a.eval o).run P w=.ok (.value (v.den β)) w/\Live st v:=by
 unfold aI at h
 split at h
 case h_1 op x hop=>
  split at h
  ·rename_i y hy
   simp only [Q.ret.injEq] at h;obtain ⟨rfl,rfl⟩:=h
   refine ⟨?_,hM.live hy⟩
   simp only [execOp,hop,hM.eval hy];rfl
  ·cases h
 case h_2 op x hop=>
  split at h
  ·rename_i y hy
   simp only [Q.ret.injEq] at h;obtain ⟨rfl,rfl⟩:=h
   refine ⟨?_,hM.live hy⟩
   simp only [execOp,hop,hM.eval hy];rfl
  ·cases h
 case h_3 op c x y hop=>
  split at h
  ·rename_i hc
   split at h
   ·rename_i z hz
    simp only [Q.ret.injEq] at h;obtain ⟨rfl,rfl⟩:=h
    refine ⟨?_,hM.live hz⟩
    simp [execOp,hop,hM.eval hz,hM.eval hc,SV.den,C.den,asBool]
   ·cases h
  ·rename_i hc
   split at h
   ·rename_i z hz
    simp only [Q.ret.injEq] at h;obtain ⟨rfl,rfl⟩:=h
    refine ⟨?_,hM.live hz⟩
    simp [execOp,hop,hM.eval hz,hM.eval hc,SV.den,C.den,asBool]
   ·cases h
  ·cases h
 case h_4=>split at h<;>cases h
 case h_5=>
  split at h
  ·split at h<;>cases h
  ·cases h
 case h_6 op t parts hop=>
  split at h
  ·rename_i i ps hi hps
   have hi:=hT _ _ hi
   split at h
   ·rename_i fs hk
    split at h
    ·rename_i pl hpl
     split at h
     ·rename_i cs hcs
      simp only [Q.ret.injEq] at h;obtain ⟨rfl,rfl⟩:=h
      obtain ⟨h1,h2⟩:=xz hT hM hi hk hps hpl hcs hsc
      refine ⟨?_,h2⟩
      simp only [execOp,hop];exact c_ h1
     ·cases h
    ·cases h
   ·rename_i m e hk
    split at h
    ·rename_i ei zO
     split at h
     ·rename_i cs hcs
      simp only [Q.ret.injEq] at h;obtain ⟨rfl,rfl⟩:=h
      obtain ⟨h1,h2⟩:=zh hT hM hi hk hps zO hcs hsc
      refine ⟨?_,h2⟩
      simp only [execOp,hop];exact c_ h1
     ·cases h
    ·cases h
   ·cases h
  ·cases h
 case h_7=>
  split at h
  ·split at h
   ·split at h
    ·split at h
     ·split at h<;>cases h
     ·cases h
    ·cases h
   ·cases h
  ·cases h
 case h_8 op t x hop=>
  split at h
  ·rename_i i y hi hy
   obtain ⟨h1,h2⟩:=wY hM (hT _ _ hi) h
   refine ⟨?_,h2⟩
   simp only [execOp,hop,hM.eval hy];exact c_ h1
  ·cases h
 case h_9=>
  split at h
  ·unfold fG at h
   split at h
   ·split at h
    ·split at h
     ·split at h<;>cases h
     ·split at h<;>cases h
     ·split at h
      ·cases h
      ·split at h<;>cases h
     ·cases h
    ·cases h
   ·cases h
  ·cases h
 case h_10 op x hop=>
  split at h
  ·rename_i s o hx
   simp only [Q.ret.injEq] at h;obtain ⟨rfl,rfl⟩:=h
   refine ⟨?_,hM.live hx⟩
   simp [execOp,hop,hM.eval hx,SV.den,C.den]
  ·rename_i p hx
   simp only [Q.ret.injEq] at h;obtain ⟨rfl,rfl⟩:=h
   obtain ⟨ad,rfl⟩:=Option.isSome_iff_exists.1 (hsc (p.isSome=true) (by simp))
   refine ⟨?_,hM.live hx⟩
   simp [execOp,hop,hM.eval hx,SV.den,C.den]
  ·cases h
 case h_11 op Uo xt x y yt hop=>
  split at h
  ·rename_i p q hp hq
   have key:(q=.v .nilIface->∃c,y=.const c)->yl T Uo xt p q=.ret sc v->(execOp a.eval o).run P w=.ok (.value (v.den β)) w/\Live st v:=by
    intro hc h
    obtain ⟨h1,h2⟩:=FP (P:=P) (w:=w) (β:=β) hT (ox:=x) (oy:=y) h hsc hc
    refine ⟨?_,bM h2⟩
    simp only [execOp,hop,hM.eval hp,hM.eval hq];exact c_ h1
   split at h
   ·split at h
    ·exact key (fun _=>⟨_,rfl⟩) h
    ·cases h
   ·rename_i hne;exact key (fun e=>absurd e hne) h
  ·cases h
 case h_12 op t x hop=>
  split at h
  ·rename_i hx
   simp only [Q.ret.injEq] at h;obtain ⟨rfl,rfl⟩:=h
   refine ⟨?_,bM rfl⟩
   simp [execOp,hop,hM.eval hx,SV.den,C.den,Op.unary]
  ·rename_i hx
   simp only [Q.ret.injEq] at h;obtain ⟨rfl,rfl⟩:=h
   refine ⟨?_,bM rfl⟩
   simp [execOp,hop,hM.eval hx,SV.den,C.den,Op.unary]
  ·rename_i b hx
   simp only [Q.ret.injEq] at h;obtain ⟨rfl,rfl⟩:=h
   refine ⟨?_,bM rfl⟩
   simp [execOp,hop,hM.eval hx,SV.den,C.den,Op.unary]
  ·cases h
 case h_13 op t x hop=>
  split at h
  ·rename_i k m hx
   simp only [Q.ret.injEq] at h;obtain ⟨rfl,rfl⟩:=h
   refine ⟨?_,bM rfl⟩
   simp [execOp,hop,hM.eval hx,SV.den,C.den,Op.unary,Op.intBits,aQ]
  ·cases h
 case h_14 op t x hop=>
  split at h
  ·rename_i k m hx
   simp only [Q.ret.injEq] at h;obtain ⟨rfl,rfl⟩:=h
   refine ⟨?_,bM rfl⟩
   simp [execOp,hop,hM.eval hx,SV.den,C.den,Op.unary,Op.intArith]
  ·cases h
 case h_15 op src dst x hop=>
  split at h
  ·rename_i i0 i k m hi0 hi hx
   obtain ⟨IB,d0,z0,g1,g2,-⟩:=aC (hT _ _ hi0)
   obtain ⟨info,d,z,h1,h2,h3,h4,h5,h6,h7⟩:=aC (hT _ _ hi)
   split at h
   ·rename_i k' hk
    rw [h4] at hk
    obtain rfl:=zG hk
    simp only [Q.ret.injEq] at h;obtain ⟨rfl,rfl⟩:=h
    refine ⟨?_,bM rfl⟩
    simp only [execOp,hop,hM.eval hx]
    refine c_ ?_
    simp only [convert,Sem.run_bind,ao g2,ao h2,Result.andThen_ok,SV.den,C.den]
    cases d0<;>rfl
   ·cases h
  ·cases h
 case h_16 op f first caps hop=>
  split at h
  ·rename_i hf
   split at h
   ·rename_i xs hxs
    split at h
    ·rename_i ss hss
     simp only [Q.ret.injEq] at h;obtain ⟨rfl,rfl⟩:=h
     obtain ⟨h1,h2⟩:=eH hM _ _ hxs
     obtain ⟨h3,h4⟩:=qV (β:=β) _ _ hss
     refine ⟨?_,fun s hs=>?_⟩
     ·have e1:first=#[]:=by apply Array.ext';exact hf
      have e2:caps.map a.eval=(ss.map fun s=>Value.pointer (some ⟨β s,0,none⟩)).toArray:=by
       apply Array.ext'
       rw [Array.toList_map,h1,h3]
      simp [execOp,hop,Instr.makeFunc,e1,e2,SV.den,C.den]
     ·obtain ⟨x,hx,hs'⟩:=h4 s hs
      exact h2 x hx s hs'
    ·cases h
   ·cases h
  ·cases h
 case h_17=>
  split at h
  ·unfold wZ at h
   split at h
   ·split at h
    ·split at h
     ·split at h
      ·split at h<;>cases h
      ·cases h
     ·cases h
    ·cases h
   ·cases h
  ·cases h
 case h_18 op t x lo hi mx hop=>
  split at h
  ·rename_i i xv l h' m hi' hx hl hh hm
   have hi':=hT _ _ hi'
   split at h
   ·rename_i e hk
    split at h
    ·rename_i ei zO
     obtain ⟨h1,h2⟩:=B9 (P:=P) (w:=w) (β:=β) hT hi' hk zO h hsc
     refine ⟨?_,mD (hM.live hx) h2⟩
     simp only [execOp,hop,hM.eval hx,tV hM hl,tV hM hh,tV hM hm];exact c_ h1
    ·cases h
   ·cases h
  ·cases h
 case h_19 op t x f hop=>
  split at h
  ·rename_i i xv hi hx
   have hi:=hT _ _ hi
   split at h
   ·rename_i fs hk
    split at h
    ·rename_i ft off hf
     split at h
     ·rename_i fi hfi
      split at h
      ·cases h
      ·rename_i hs
       have hs:fi.size≠0:=fun e=>hs (beq_eq.2 e)
       split at h
       ·rename_i s o'
        simp only [Q.ret.injEq] at h;obtain ⟨rfl,rfl⟩:=h
        have:=qK (w:=w) hT hi hk hf hfi hs ⟨β s,o',none⟩
        rw [eO] at this
        refine ⟨?_,mD (hM.live hx) (fun s hs=>by simpa [SV.ids,C.ids] using hs)⟩
        simp only [execOp,hop,hM.eval hx];exact c_ this
       ·rename_i p
        simp only [Q.ret.injEq] at h;obtain ⟨rfl,rfl⟩:=h
        obtain ⟨ad,rfl⟩:=Option.isSome_iff_exists.1 (hsc (p.isSome=true) (by simp))
        have:=qK (w:=w) hT hi hk hf hfi hs ad
        refine ⟨?_,bM rfl⟩
        simp only [execOp,hop,hM.eval hx];exact c_ this
       ·cases h
     ·cases h
    ·cases h
   ·cases h
  ·cases h
 case h_20 op t x f hop=>
  split at h
  ·rename_i i cs hi hx
   have hi:=hT _ _ hi
   split at h
   ·rename_i fs hk
    split at h
    ·rename_i ft off hf
     split at h
     ·rename_i fi hfi
      obtain ⟨g1,g2⟩:=DJ (P:=P) (w:=w) (β:=β) hT hi hk hf hfi (cs:=cs)
      have hagg:pK fi.k=true->Q.ret [] (.agg ((cs.drop off).take fi.size))=.ret sc v->(execOp a.eval o).run P w=.ok (.value (v.den β)) w/\Live st v:=by
       intro hk' h
       simp only [Q.ret.injEq] at h;obtain ⟨rfl,rfl⟩:=h
       refine ⟨?_,mD (hM.live hx) fun s hs=>?_⟩
       ·simp only [execOp,hop,hM.eval hx];exact c_ (g1 hk')
       ·obtain ⟨c,hc,hs⟩:=List.mem_flatMap.1 hs
        exact fY (List.mem_of_mem_drop (List.mem_of_mem_take hc)) hs
      split at h
      ·rename_i hk';exact hagg (by rw [hk'];rfl) h
      ·rename_i hk';exact hagg (by rw [hk'];rfl) h
      ·rename_i hk1 hk2
       have hk':pK fi.k=false:=by
        cases hik:fi.k<;>first|rfl|exact absurd hik (hk1 _)|exact absurd hik (hk2 _ _)
       split at h
       ·rename_i c hc
        simp only [Q.ret.injEq] at h;obtain ⟨rfl,rfl⟩:=h
        refine ⟨?_,mD (hM.live hx) fun s hs=>?_⟩
        ·simp only [execOp,hop,hM.eval hx];exact c_ (g2 c hk' hc)
        ·exact fY (List.mem_of_getElem? hc) hs
       ·cases h
     ·cases h
    ·cases h
   ·cases h
  ·cases h
 case h_21 op t x ix hop=>
  split at h
  ·rename_i i xv iv hi hx hix
   obtain ⟨h1,h2⟩:=t_ (P:=P) (w:=w) (β:=β) hT (hT _ _ hi) h hsc
   refine ⟨?_,mD (hM.live hx) h2⟩
   simp only [execOp,hop,hM.eval hx,hM.eval hix];exact c_ h1
  ·cases h
 case h_22 op x j hop=>
  split at h
  ·rename_i xs hx
   split at h
   ·rename_i y hy
    split at h
    ·rename_i z hz
     simp only [Q.ret.injEq] at h;obtain ⟨rfl,rfl⟩:=h
     obtain ⟨h1,h2⟩:=EV (β:=β) hz
     refine ⟨?_,mD (hM.live hx) fun s hs=>List.mem_flatMap.2 ⟨y,List.mem_of_getElem? hy,h2 s hs⟩⟩
     have:(xs.map (gH β))[j]?=some (z.den β):=by rw [List.getElem?_map,hy];simp [h1]
     simp [execOp,hop,hM.eval hx,SV.den,Instr.extract,hy,h1]
    ·cases h
   ·cases h
  ·cases h
 case h_23 op c hop=>
  split at h
  ·split at h
   ·split at h
    ·split at h
     ·split at h
      ·exact (Al h).elim
      ·cases h
     ·cases h
    ·cases h
   ·cases h
  ·split at h
   ·exact (B7 h).elim
   ·cases h
  ·rename_i b hb hb2 hc
   split at h
   ·rename_i xs t ts hxs hts
    split at h
    ·rename_i i hi
     obtain ⟨h1,h2⟩:=eH hM _ _ hxs
     have e1:c.argTypes=(t::ts).toArray:=by apply Array.ext';exact hts
     have e2:c.args.map a.eval=(xs.map (SV.den β)).toArray:=by apply Array.ext';rw [Array.toList_map];exact h1
     obtain ⟨k1,k2⟩:=ym (P:=P) (w:=w) (β:=β) (ts:=ts) (ty:=o.type) (cs:=c.args.map fun|.const _=>true|_=>false) (hT _ _ hi) h
     refine ⟨?_,bM k2⟩
     simp only [execOp,hop,resolve,hc,pure_bind,invoke,e1,e2]
     exact k1
    ·cases h
   ·cases h
  ·cases h
 case h_24 op t x ix hop=>
  split at h
  ·rename_i i s k m hi hx hix
   split at h
   ·rename_i hk
    obtain ⟨info,d,z,h1,h2,h3,h4,h5,h6,h7⟩:=aC (hT _ _ hi)
    rw [h4] at hk
    obtain rfl:=qI hk
    simp only [Q.ret.injEq] at h;obtain ⟨rfl,rfl⟩:=h
    have hb:=hsc _ (List.mem_singleton.2 rfl)
    refine ⟨?_,bM rfl⟩
    have hlt:m.toNat<s.size:=by omega
    have e:s.data.toList.getD m.toNat 0=s[m.toNat]'hlt:=by
     have:s.data.toList[m.toNat]?=some (s[m.toNat]'hlt):=by
      rw [Array.getElem?_toList];exact Array.getElem?_eq_getElem (by simpa using hlt)
     rw [List.getD_eq_getElem?_getD,this];rfl
    simp only [execOp,hop,hM.eval hx,hM.eval hix,SV.den,C.den]
    refine c_ ?_
    rw [run_index_string (w:=w) t s k m h2,dif_pos hb,e]
   ·cases h
  ·rename_i i cs k m hi hx hix
   unfold jY at h
   split at h
   ·rename_i n e hk
    split at h
    ·rename_i ei l zO hl
     split at h
     ·rename_i e2 hek
      split at h
      ·rename_i hb
       rw [Bool.and_eq_true] at hb
       simp only [Q.ret.injEq] at h;obtain ⟨rfl,rfl⟩:=h
       have hm:=hsc _ (List.mem_singleton.2 rfl)
       obtain ⟨info,d,z,h1,h2,h3,h4,h5,h6,h7⟩:=aC (hT _ _ hi)
       rw [h4] at hk
       obtain rfl:=lG hk
       obtain ⟨fW,ed,ez,e1,e2,e3,e4,e5,e6,e7⟩:=aC (hT _ _ zO)
       refine ⟨?_,bM rfl⟩
       have b1:=beq_eq.1 hb.1
       have b2:=beq_eq.1 hb.2
       have hc:=Dj hl (show m.toNat<l.length by omega)
       have hp:=(Ai (w:=w) (β:=β) (hT _ _ zO) cs m.toNat).2 _ (by rw [hek];rfl) hc
       simp only [execOp,hop,hM.eval hx,hM.eval hix]
       refine c_ ?_
       have es:m.toNat*fW.size=m.toNat:=by rw [←e5,b1,Nat.mul_one]
       simp only [Instr.index,SV.den,C.den,eA,Sem.run_bind,Result.andThen_ok,ao h2,Sem.run_ite,if_pos hm,aL e1,es]
       exact hp
      ·cases h
     ·cases h
    ·cases h
   ·cases h
  ·cases h
 case h_25 op t x hop=>
  split at h
  ·rename_i i y hi hx
   obtain ⟨info,d,z,h1,h2,h3,h4,h5,h6,h7⟩:=aC (hT _ _ hi)
   unfold tZ at h
   split at h
   ·cases h
   ·rename_i hk
    split at h
    ·rename_i eL Ve
     simp only [Q.ret.injEq] at h;obtain ⟨rfl,rfl⟩:=h
     refine ⟨?_,bM rfl⟩
     simp only [execOp,hop,hM.eval hx]
     refine c_ ?_
     have hd:∀ms,d≠.interface ms:=fun ms e=>by rw [e] at h4;exact hk h4
     have e2:y.den β=y.den fun _=>0:=SV.bI fun s hs=>by rw [eL] at hs;cases hs
     show (Instr.makeInterface t (y.den β)).run P w=.ok (.iface t (y.den fun _=>0)) w
     rw [e2]
     generalize y.den (fun _=>0)=u
     simp only [Instr.makeInterface,Sem.run_bind,ao h2,Result.andThen_ok]
     cases d<;>first|rfl|exact absurd rfl (hd _)
    ·cases h
  ·cases h
 case h_26=>cases h
end Go.bF
namespace Go.bF
variable {P:Program} {T:cG} {n:Nat} {V0:View} {br:Bf} {β0:Nat->Nat} {st:St} {β:Nat->Nat} {a:Act} {w:World} {V:View}
theorem D2 (hT:cG.ok P T)(hM:Mod n V0 br β0 st β a w V){o:Oper}{sc:List Prop}{b:aO}{x:Nat->SV}(h:aI T st.aW st.boxes o.op=.new sc b x)(hsc:∀p∈sc,p) :
  ∃v,(execOp a.eval o).run P w=.ok (.value v) (w.alloc (b.obj β))/\(∀d,v=(x d).den (bK β d w.heap.size)/\(x d).ids=[d])/\(∀s∈b.cs.ids,∃b',st.boxes s=some b'):=by
 have hx:∀d,SV.den (bK β d w.heap.size) (.c (.ptr d 0))=.pointer (some ⟨w.heap.size,0,none⟩):=fun d=>by simp [SV.den,C.den,aN]
 have hy:∀d m c,SV.den (bK β d w.heap.size) (.c (.gF d 0 m c))=.slice (some ⟨w.heap.size,0,none⟩) m c:=fun d m c=>by simp [SV.den,C.den,aN]
 unfold aI at h
 split at h
 case h_1=>split at h<;>cases h
 case h_2=>split at h<;>cases h
 case h_3=>split at h<;>(try split at h)<;>cases h
 case h_4 op t hop=>
  split at h
  ·rename_i i hi
   obtain ⟨info,d,z,h1,h2,h3,h4,h5,h6,h7⟩:=aC (hT _ _ hi)
   simp only [Q.new.injEq] at h;obtain ⟨rfl,rfl,rfl⟩:=h
   obtain ⟨z1,z2⟩:=dw (β:=β) h7
   refine ⟨.pointer (some ⟨w.heap.size,0,none⟩),?_,fun d=>⟨(hx d).symm,rfl⟩,fun s hs=>by rw [show Cells.ids (.lit i.zero)=[] from z2] at hs;cases hs⟩
   simp only [execOp,hop]
   refine c_ ?_
   simp only [Instr.alloc,Sem.run_bind,gU h1 h3,Result.andThen_ok,newVar,newRow,run_newObj,Sem.run_pure,aO.obj,Cells.den,z1]
   rfl
  ·cases h
 case h_5 op t y hop=>
  split at h
  ·rename_i v hv
   split at h
   ·cases h
   ·rename_i hnt
    simp only [Q.new.injEq] at h;obtain ⟨rfl,rfl,rfl⟩:=h
    obtain ⟨c1,-⟩:=SV.pV (β:=β) hnt hsc
    refine ⟨.pointer (some ⟨w.heap.size,0,none⟩),?_,fun d=>⟨(hx d).symm,rfl⟩,fun s hs=>hM.live hv s (SV.pW hnt hs)⟩
    simp only [execOp,hop,hM.eval hv]
    refine c_ ?_
    simp only [Instr.box,newVar,newRow,Sem.run_bind,run_newObj,Result.andThen_ok,Sem.run_pure,c1,aO.obj,Cells.den]
    rfl
  ·cases h
 case h_6=>
  split at h
  ·split at h
   ·split at h
    ·split at h<;>cases h
    ·cases h
   ·split at h
    ·split at h<;>cases h
    ·cases h
   ·cases h
  ·cases h
 case h_7 op t len parts hop=>
  split at h
  ·rename_i i ps hi hps
   split at h
   ·rename_i e hk
    split at h
    ·rename_i ei zO
     split at h
     ·rename_i hc
      simp only [Bool.and_eq_true,beq_eq,Bool.not_eq_eq_eq_not] at hc
      obtain ⟨⟨c1,c2⟩,c3⟩:=hc
      have c1:=Nat.le_of_ble_eq_true c1
      have c3:ei.size≠0:=fun e=>by rw [e] at c3;cases c3
      split at h
      ·rename_i cs hcs
       simp only [Q.new.injEq] at h;obtain ⟨rfl,rfl,rfl⟩:=h
       obtain ⟨h1,h2⟩:=sG hT hM (hT _ _ hi) hk hps zO c1 c2 c3 hcs hsc
       exact ⟨_,by simp only [execOp,hop];exact c_ h1,fun d=>⟨(hy d _ _).symm,rfl⟩,h2⟩
      ·cases h
     ·cases h
    ·cases h
   ·cases h
  ·cases h
 case h_8=>
  split at h
  ·unfold iw at h
   split at h
   ·split at h
    ·split at h
     ·split at h<;>cases h
     ·split at h<;>cases h
     ·split at h<;>cases h
    ·cases h
    ·split at h<;>cases h
    ·cases h
   ·split at h<;>cases h
   ·cases h
  ·cases h
 case h_9=>
  split at h
  ·unfold fG at h
   split at h
   ·split at h
    ·split at h
     ·split at h<;>cases h
     ·split at h<;>cases h
     ·split at h
      ·cases h
      ·split at h<;>cases h
     ·cases h
    ·cases h
   ·cases h
  ·cases h
 case h_10=>split at h<;>cases h
 case h_11=>
  split at h
  ·have key:∀{op xt} {p q:C},yl T op xt p q≠.new sc b x:=by
    intro op xt p q h
    have hi:∀k m m',lJ op k m m'≠.new sc b x:=fun k m m' h=>by cases op<;>cases h
    have hn:∀neg k,yn neg k p q≠.new sc b x:=fun neg k h=>by
     unfold yn at h
     split at h<;>(try split at h)<;>(try split at h)<;>cases h
    unfold yl at h
    split at h
    ·split at h
     ·split at h
      ·split at h
       ·exact hi _ _ _ h
       ·exact hi _ _ _ h
       ·split at h
        ·exact hi _ _ _ h
        ·cases h
      ·cases h
     ·split at h
      ·split at h<;>cases h
      ·cases h
     ·split at h
      ·exact hn _ _ h
      ·exact hn _ _ h
      ·cases h
    ·cases h
   split at h
   ·split at h
    ·exact (key h).elim
    ·cases h
   ·exact (key h).elim
  ·cases h
 case h_12=>split at h<;>cases h
 case h_13=>split at h<;>cases h
 case h_14=>split at h<;>cases h
 case h_15=>
  split at h
  ·split at h<;>cases h
  ·cases h
 case h_16=>split at h<;>(try split at h)<;>(try split at h)<;>cases h
 case h_17 op t l c hop=>
  split at h
  ·rename_i i lv cv hi hl hc
   unfold wZ at h
   split at h
   ·rename_i e hk
    split at h
    ·rename_i ei zO
     split at h
     ·rename_i k1 m1 k2 m2
      split at h
      ·rename_i zs hzs
       split at h
       ·cases h
       ·rename_i hcond
        simp only [Bool.or_eq_true,beq_eq,Bool.not_eq_eq_eq_not,not_or] at hcond
        obtain ⟨⟨g1,g2⟩,g3⟩:=hcond
        simp only [Q.new.injEq] at h;obtain ⟨rfl,rfl,rfl⟩:=h
        have g3:ei.size=zs.length:=by
         rcases hb:Nat.beq ei.size zs.length with _|_
         ·rw [hb] at g3;exact absurd rfl g3
         ·exact beq_eq.1 hb
        have hm:=vk (P:=P) (w:=w) (β:=β) hT (hT _ _ hi) hk zO (k1:=k1) (k2:=k2) (l:=m1) (c:=m2) g1 g2 hzs g3 (hsc _ (by simp)) (hsc _ (by simp)) (hsc _ (by simp))
        refine ⟨_,?_,fun d=>⟨(hy d _ _).symm,rfl⟩,fun s hs=>by simp [Cells.ids] at hs⟩
        simp only [execOp,hop,hM.eval hl,hM.eval hc]
        exact c_ hm
      ·cases h
     ·cases h
    ·cases h
   ·cases h
  ·cases h
 case h_18=>
  split at h
  ·split at h
   ·split at h
    ·unfold qj at h
     split at h<;>(try split at h)<;>(try split at h)<;>cases h
    ·cases h
   ·cases h
  ·cases h
 case h_19=>
  split at h
  ·split at h
   ·split at h
    ·split at h
     ·split at h
      ·cases h
      ·split at h<;>cases h
     ·cases h
    ·cases h
   ·cases h
  ·cases h
 case h_20=>
  split at h
  ·split at h
   ·split at h
    ·split at h
     ·split at h
      ·cases h
      ·cases h
      ·split at h<;>cases h
     ·cases h
    ·cases h
   ·cases h
  ·cases h
 case h_21=>
  split at h
  ·unfold fF at h
   split at h
   ·split at h
    ·split at h
     ·split at h<;>cases h
     ·cases h
    ·split at h
     ·split at h<;>cases h
     ·cases h
    ·cases h
   ·cases h
  ·cases h
 case h_22=>split at h<;>(try split at h)<;>(try split at h)<;>cases h
 case h_23=>
  split at h
  ·split at h
   ·split at h
    ·split at h
     ·split at h
      ·unfold bW at h
       split at h
       ·cases h
       ·split at h
        ·cases h
        ·dsimp only at h
         split at h
         ·cases h
         ·split at h
          ·cases h
          ·split at h
           ·split at h<;>cases h
           ·cases h
          ·split at h
           ·split at h<;>cases h
           ·cases h
          ·cases h
      ·cases h
     ·cases h
    ·cases h
   ·cases h
  ·split at h
   ·exfalso
    rcases kJ (T:=T) (bx:=st.boxes) with e|⟨_,_,_,e⟩<;>(rw [e] at h;cases h)
   ·cases h
  ·split at h
   ·split at h
    ·unfold jX at h
     split at h
     ·cases h
     ·split at h<;>(try split at h)<;>(try split at h)<;>cases h
    ·cases h
   ·cases h
  ·cases h
 case h_24=>
  split at h
  ·split at h<;>cases h
  ·unfold jY at h
   split at h
   ·split at h
    ·split at h
     ·split at h<;>cases h
     ·cases h
    ·cases h
   ·cases h
  ·cases h
 case h_25=>
  split at h
  ·unfold tZ at h
   split at h
   ·cases h
   ·split at h<;>cases h
  ·cases h
 case h_26=>cases h
def cF:Q->Nat
 | .fail=>0|.ret ..=>1|.new ..=>2|.rB ..=>3|.rd ..=>4|.mW ..=>5|.app ..=>6|.qh ..=>6
theorem nO {op:BinOp}{k:IntKind}{x y:Int}:cF (lJ op k x y)<=1:=by cases op<;>exact Nat.le_refl _
theorem AB {neg:Bool}{k:TK}{x y:C}:cF (yn neg k x y)<=1:=by
 unfold yn;split<;>(try split)<;>(try split)<;>first|exact Nat.le_refl _|exact Nat.zero_le _
theorem mY {i:TI}{cs:List C}{k:Int}:cF (jY T i cs k)<=1:=by
 unfold jY
 split
 ·split
  ·split
   ·split<;>first|exact Nat.le_refl _|exact Nat.zero_le _
   ·exact Nat.zero_le _
  ·exact Nat.zero_le _
 ·exact Nat.zero_le _
theorem pf {op:BinOp}{xt:TypeId}{x y:C}:cF (yl T op xt x y)<=1:=by
 unfold yl
 split
 ·split
  ·split
   ·split
    ·exact nO
    ·exact nO
    ·split
     ·exact nO
     ·exact Nat.zero_le _
   ·exact Nat.zero_le _
  ·split
   ·split<;>first|exact Nat.le_refl _|exact Nat.zero_le _
   ·exact Nat.zero_le _
  ·split
   ·exact AB
   ·exact AB
   ·exact Nat.zero_le _
 ·exact Nat.zero_le _
theorem uo {sz:Nat}{x:SV}{lo hi mx:Option SV}:cF (qj sz x lo hi mx)<=1:=by
 unfold qj;split<;>(try split)<;>(try split)<;>first|exact Nat.le_refl _|exact Nat.zero_le _
theorem lV {i:TI}{x ix:SV}:cF (fF T i x ix)<=1:=by
 unfold fF;split<;>(try split)<;>(try split)<;>(try split)<;>first|exact Nat.le_refl _|exact Nat.zero_le _
theorem pg {b:Builtin}{k:TK}{xs:List SV}:cF (jX b k xs)<=1:=by
 unfold jX;split<;>(try split)<;>(try split)<;>(try split)<;>first|exact Nat.le_refl _|exact Nat.zero_le _
theorem Ec {i:TI}{l c:SV}:cF (wZ T i l c)=0\/cF (wZ T i l c)=2:=by
 unfold wZ;split<;>(try split)<;>(try split)<;>(try split)<;>(try split)<;>first|exact .inl rfl|exact .inr rfl
theorem nQ {bx:Nat->Option aO}{i:TI}{a x:SV}:cF (fG bx i a x)=0\/cF (fG bx i a x)=3:=by
 unfold fG;split<;>(try split)<;>(try split)<;>(try split)<;>(try split)<;>first|exact .inl rfl|exact .inr rfl
theorem qm {bx:Nat->Option aO}{i:TI}{x:SV}:cF (iw bx i x)=0\/cF (iw bx i x)=1\/cF (iw bx i x)=4\/cF (iw bx i x)=5:=by
 unfold iw;split<;>(try split)<;>(try split)<;>(try split)<;>first|exact .inl rfl|exact .inr (.inl rfl)|exact .inr (.inr (.inl rfl))|exact .inr (.inr (.inr rfl))
theorem lU {bx:Nat->Option aO}{e:TypeId}{ei:TI}{b x:SV}:cF (bW bx e ei b x)=0\/cF (bW bx e ei b x)=6:=by
 unfold bW
 split
 ·exact .inl rfl
 ·split
  ·exact .inl rfl
  ·dsimp only
   split
   ·exact .inl rfl
   ·split<;>(try split)<;>(try split)<;>first|exact .inl rfl|exact .inr rfl
theorem nP {bx:Nat->Option aO}{t:TypeId}{x:SV}:cF (kI T bx t x)=0\/cF (kI T bx t x)=3:=by
 rcases kJ (T:=T) (bx:=bx) (t:=t) (x:=x) with e|⟨_,_,_,e⟩<;>rw [e]<;>first|exact .inl rfl|exact .inr rfl
theorem eI {ρ:Operand->Option SV}{bx:Nat->Option aO}{op:Op} :
  (cF (aI T ρ bx op)=3->((∃t a x,op=.store t a x)\/∃c,op=.call c/\c.callee=.builtin .clear))/\(cF (aI T ρ bx op)=4\/cF (aI T ρ bx op)=5->∃t a,op=.load t a) /\
  (cF (aI T ρ bx op)=6->∃c,op=.call c/\c.callee=.builtin .append):=by
 have fm:∀{q:Q},cF q<=1->(cF q=3->((∃t a x,op=.store t a x)\/∃c,op=.call c/\c.callee=.builtin .clear))/\(cF q=4\/cF q=5->∃t a,op=.load t a)/\(cF q=6->∃c,op=.call c/\c.callee=.builtin .append):=by
  intro q h;exact ⟨by omega,by omega,by omega⟩
 have S8:∀{q:Q},cF q=0\/cF q=2->(cF q=3->((∃t a x,op=.store t a x)\/∃c,op=.call c/\c.callee=.builtin .clear))/\(cF q=4\/cF q=5->∃t a,op=.load t a)/\(cF q=6->∃c,op=.call c/\c.callee=.builtin .append):=by
  intro q h;exact ⟨by omega,by omega,by omega⟩
 unfold aI
 split
 case h_8=>
  split
  ·refine ⟨fun h=>?_,fun _=>⟨_,_,rfl⟩,fun h=>?_⟩
   ·rcases qm (bx:=bx) with h'|h'|h'|h'<;>(rw [h'] at h;cases h)
   ·rcases qm (bx:=bx) with h'|h'|h'|h'<;>(rw [h'] at h;cases h)
  ·exact fm (Nat.zero_le _)
 case h_9=>
  split
  ·refine ⟨fun _=>.inl ⟨_,_,_,rfl⟩,fun h=>?_,fun h=>?_⟩
   ·rcases nQ (bx:=bx) with h'|h'<;>(rw [h'] at h;rcases h with h|h<;>cases h)
   ·rcases nQ (bx:=bx) with h'|h'<;>(rw [h'] at h;cases h)
  ·exact fm (Nat.zero_le _)
 case h_11=>
  split
  ·split
   ·split
    ·exact fm pf
    ·exact fm (Nat.zero_le _)
   ·exact fm pf
  ·exact fm (Nat.zero_le _)
 case h_17=>
  split
  ·exact S8 Ec
  ·exact fm (Nat.zero_le _)
 case h_18=>
  split
  ·split
   ·split
    ·exact fm uo
    ·exact fm (Nat.zero_le _)
   ·exact fm (Nat.zero_le _)
  ·exact fm (Nat.zero_le _)
 case h_21=>
  split
  ·exact fm lV
  ·exact fm (Nat.zero_le _)
 case h_23 c=>
  split
  ·rename_i hc
   refine ⟨fun h=>?_,fun h=>?_,fun _=>⟨c,rfl,hc⟩⟩
   ·exfalso
    split at h<;>(try split at h)<;>(try split at h)<;>(try split at h)<;>first|(rcases lU (bx:=bx) with h'|h'<;>(rw [h'] at h;cases h))|cases h
   ·exfalso
    split at h<;>(try split at h)<;>(try split at h)<;>(try split at h)<;>first|(rcases lU (bx:=bx) with h'|h'<;>(rw [h'] at h;rcases h with h|h<;>cases h))|(rcases h with h|h<;>cases h)
  ·rename_i hc
   split
   ·refine ⟨fun _=>.inr ⟨c,rfl,hc⟩,fun h=>?_,fun h=>?_⟩
    ·rcases nP (T:=T) (bx:=bx) with h'|h'<;>(rw [h'] at h;rcases h with h|h<;>cases h)
    ·rcases nP (T:=T) (bx:=bx) with h'|h'<;>(rw [h'] at h;cases h)
   ·exact fm (Nat.zero_le _)
  ·split
   ·split
    ·exact fm pg
    ·exact fm (Nat.zero_le _)
   ·exact fm (Nat.zero_le _)
  ·exact fm (Nat.zero_le _)
 case h_24=>
  split
  ·split
   ·exact fm (Nat.le_refl _)
   ·exact fm (Nat.zero_le _)
  ·exact fm mY
  ·exact fm (Nat.zero_le _)
 case h_25=>
  split
  ·unfold tZ
   split
   ·exact fm (Nat.zero_le _)
   ·split
    ·exact fm (Nat.le_refl _)
    ·exact fm (Nat.zero_le _)
  ·exact fm (Nat.zero_le _)
 all_goals
  first
  | exact fm (Nat.zero_le _)
  | ((repeat' split)<;>first|exact fm (Nat.zero_le _)|exact fm (Nat.le_refl _)|exact S8 (.inr rfl))
theorem B8 (hT:cG.ok P T)(hM:Mod n V0 br β0 st β a w V){t:TypeId}{x:SV}{sc:List Prop}{s:Nat}{b:aO}(h:kI T st.boxes t x=.rB sc s b)(hsc:∀p∈sc,p)(ty:TypeId)(cs:Array Bool) :
  ∃w',(builtin .clear #[t] ty cs #[x.den β]).run P w=.ok (.value (.tuple #[])) w'/\Mod n V0 br β0 (st.box s b) β a w' V:=by
 unfold kI at h
 split at h
 ·rename_i i hi
  split at h
  ·rename_i e hk
   split at h
   ·rename_i ei zO
    split at h
    ·rename_i zs g o k c hz
     split at h
     ·rename_i vs et hb
      split at h
      ·cases h
      ·rename_i hc
       simp only [Q.rB.injEq] at h;obtain ⟨rfl,rfl,rfl⟩:=h
       simp only [Bool.or_eq_true,beq_eq,Bool.not_eq_true',not_or,Bool.not_eq_false,List.all_eq_true] at hc
       obtain ⟨⟨c1,c2⟩,c3⟩:=hc
       obtain ⟨info,d,z,h1,h2,h3,h4,h5,h6,h7⟩:=aC (hT _ _ hi)
       obtain ⟨fW,ed,ez,e1,e2,e3,e4,e5,e6,e7⟩:=aC (hT _ _ zO)
       rw [h4] at hk
       obtain rfl:=aR hk
       obtain ⟨z1,z2⟩:=dw (β:=β) e7
       obtain ⟨d1,-⟩:=eK (β:=β) hz
       have hzs:ez.cells.size=fW.size:=by rw [←z1,d1];simp [←e5,c2]
       have UZ:ez.cells.toList=zs:=by rw [←d1,←z1]
       have hle:o+k*ei.size<=vs.length:=hsc _ (by simp)
       have hzl:∀m,(pF m zs).length=m*ei.size:=fun m=>by
        rw [mL,c2]
        simp [List.length_flatten]
       have hz1:∀v∈pF k zs,v.oneCell'=true:=fun v hv=>by
        rw [mL] at hv
        obtain ⟨l,hl,hv⟩:=List.mem_flatten.1 hv
        rw [List.eq_of_mem_replicate hl] at hv
        exact c3 v hv
       have hrow:w.heap[β g]?=some (.cells vs.toArray et (0,0)):=hM.row hb b_
       have key:=run_storeCells_at (P:=P) (β g) o et (pF k zs) 0 vs.toArray w hrow (by simpa [hzl] using hle) hz1
       simp only [Nat.add_zero,hzl] at key
       refine ⟨w.setRow (β g) (vs.take o++pF k zs++vs.drop (o+k*ei.size)).toArray,?_,hM.rB hb b_ (by intro s' hs';simp [Cells.ids] at hs') (by rw [iA hrow];rfl) rfl rfl rfl⟩
       have hrun:(Builtin.clear_ #[t] ty #[SV.den β (.c (.gF g o k c))]).run P w=.ok (.tuple #[]) (w.setRow (β g) (vs.take o++pF k zs++vs.drop (o+k*ei.size)).toArray):=by
        cases k with
        | zero=>
         have e0:(vs.take o++pF 0 zs++vs.drop (o+0*ei.size)).toArray=vs.toArray:=by
          rw [mL];simp
         rw [e0,setRow_self w (β g) vs.toArray et (0,0) hrow]
         simp [Builtin.clear_,ao h2,SV.den,C.den]
        | succ k=>
         have ek:(Builtin.zeroCells ez.cells (k+1)).toList=pF (k+1) zs:=by
          unfold Builtin.zeroCells
          rw [pM (z:=ez) (m:=k+1) _ rfl,mL,UZ]
         have Vj:(zeroValue e).run P w=.ok ez w:=gU e1 e3 w
         simp only [List.append_assoc] at key ⊢
         simp [Builtin.clear_,ao h2,SV.den,C.den,Vj,ek,key]
       simp only [builtin]
       exact c_ hrun
     ·cases h
    ·cases h
   ·cases h
  ·cases h
 ·cases h
theorem D4 (hT:cG.ok P T)(hM:Mod n V0 br β0 st β a w V){o:Oper}{sc:List Prop}{s:Nat}{b:aO}(h:aI T st.aW st.boxes o.op=.rB sc s b)(hsc:∀p∈sc,p) :
  ∃nx w',(execOp a.eval o).run P w=.ok nx w'/\(nx=.skip\/∃v,nx=.value v)/\Mod n V0 br β0 (st.box s b) β a w' V:=by
 rcases (eI (T:=T) (ρ:=st.aW) (bx:=st.boxes) (op:=o.op)).1 (by rw [h];rfl) with ⟨t,y,x,hop⟩|⟨c,hop,oJ⟩
 ·rw [hop] at h
  simp only [aI] at h
  split at h
  ·rename_i i av xv hi Er hxv
   obtain ⟨w',h1,h2⟩:=B_ hM (hT _ _ hi) (hM.live hxv) h hsc
   refine ⟨.skip,w',?_,.inl rfl,h2⟩
   simp only [execOp,hop,hM.eval Er,hM.eval hxv]
   exact M7 h1
  ·cases h
 ·obtain ⟨CV,args,ts⟩:=c
  dsimp only at oJ
  subst oJ
  rw [hop] at h
  simp only [aI] at h
  split at h
  ·rename_i x t hxs hts
   obtain ⟨h1,-⟩:=eH hM _ _ hxs
   have e1:ts=#[t]:=by apply Array.ext';exact hts
   have e2:args.map a.eval=#[x.den β]:=by apply Array.ext';rw [Array.toList_map];exact h1
   obtain ⟨w',k1,k2⟩:=B8 hT hM h hsc o.type (args.map fun|.const _=>true|_=>false)
   refine ⟨.value (.tuple #[]),w',?_,.inr ⟨_,rfl⟩,k2⟩
   simp only [execOp,hop,resolve,pure_bind,invoke,e1,e2]
   exact k1
  ·cases h
theorem FV (hT:cG.ok P T)(hM:Mod n V0 br β0 st β a w V){o:Oper}{p:OA}{sh:r_}(h:aI T st.aW st.boxes o.op=.rd p sh){x:SV}{k:Prop}
  (hx:x.ids=[])(hs:(∃c,x=.c c/\∃s',sh=.one s')\/∃cs l,x=.agg cs/\sh=.agg l/\cs.length=l.length)(hr:V.GH p x k) :
  (execOp a.eval o).run P w=.ok (.value (x.den β)) w/\k:=by
 obtain ⟨t,y,hop⟩:=(eI (T:=T) (ρ:=st.aW) (bx:=st.boxes) (op:=o.op)).2.1 (by rw [h];exact .inl rfl)
 rw [hop] at h
 simp only [aI] at h
 split at h
 ·rename_i i av hi Er
  unfold iw at h
  split at h
  ·split at h
   ·split at h
    ·split at h<;>cases h
    ·split at h<;>cases h
    ·split at h<;>cases h
   ·cases h
   ·split at h<;>cases h
   ·cases h
  ·split at h
   ·rename_i hz
    simp only [Q.rd.injEq] at h
    obtain ⟨rfl,rfl⟩:=h
    obtain ⟨h1,h2⟩:=J9 hM (hT _ _ hi) (beq_eq.1 hz) hx hs hr
    refine ⟨?_,h2⟩
    simp only [execOp,hop,hM.eval Er]
    exact c_ h1
   ·cases h
  ·cases h
 ·cases h
theorem Am (hT:cG.ok P T)(hM:Mod n V0 br β0 st β a w V){o:Oper}{vs:List Value}{of size:Nat}{sh:r_}(h:aI T st.aW st.boxes o.op=.mW vs of size sh){x:SV}
  (hx:x.ids=[])(hs:(∃c,x=.c c/\∃s',sh=.one s')\/∃cs l,x=.agg cs/\sh=.agg l/\cs.length=l.length)(hr:HN vs of size x) :
  (execOp a.eval o).run P w=.ok (.value (x.den β)) w:=by
 obtain ⟨t,y,hop⟩:=(eI (T:=T) (ρ:=st.aW) (bx:=st.boxes) (op:=o.op)).2.1 (by rw [h];exact .inr rfl)
 rw [hop] at h
 simp only [aI] at h
 split at h
 ·rename_i i av hi Er
  unfold iw at h
  split at h
  ·split at h
   ·split at h
    ·split at h<;>cases h
    ·split at h<;>cases h
    ·split at h<;>cases h
   ·rename_i hb
    simp only [Q.mW.injEq] at h
    obtain ⟨rfl,rfl,rfl,rfl⟩:=h
    have h1:=xd hM (hT _ _ hi) (.inl hb) hx hs hr
    simp only [execOp,hop,hM.eval Er]
    exact c_ h1
   ·rename_i hb
    split at h
    ·cases h
    ·rename_i hz
     simp only [Q.mW.injEq] at h
     obtain ⟨rfl,rfl,rfl,rfl⟩:=h
     have h1:=xd hM (hT _ _ hi) (.inr ⟨hb,fun e=>hz (by rw [e];rfl)⟩) hx hs hr
     simp only [execOp,hop,hM.eval Er]
     exact c_ h1
   ·cases h
  ·split at h<;>cases h
  ·cases h
 ·cases h
end Go.bF
