import Derived.Test.YtnnbfoejafcdlaaGreatDoorH1
set_option linter.unusedVariables false
open Go.IntKind (i64 u64 u32)
namespace Go.bE
variable {P:Program} {T:cV} {n:Nat} {V0:View} {bC:Ey} {β0:Nat->Nat} {st:St} {β:Nat->Nat} {a:Act} {w:World} {V:View}
theorem fI (b o k:Nat):(⟨b,o,none⟩:Addr).add k=⟨b,o+k,none⟩:=by
 unfold Addr.add;split
 ·rename_i h;subst h;rfl
 ·rfl
theorem cell_of_row {g o:Nat}{vs:List Value}{ty:TypeId}(h:w.heap[g]?=some (.cells vs.toArray ty (0,0))):w.cell? ⟨g,o,none⟩=vs[o]?:=by
 simp [World.cell?,h]
theorem De {g o m:Nat}{vs:List Value}{ty t:TypeId}{info:TypeInfo}{d:TypeDesc}(h:w.heap[g]?=some (.cells vs.toArray ty (0,0)))
  (h1:P.info? t=some info)(h2:P.underlying t=some d)(hm:info.size=m)(hk:qw (jT d)=true)(hl:o+m<=vs.length) :
  (loadVar t ⟨g,o,none⟩).run P w=.ok (.agg ((vs.drop o).take m).toArray) w:=by
 subst hm
 have key:=run_loadCells_list (P:=P) (w:=w) ⟨g,o,none⟩ ((vs.drop o).take info.size) (by
  intro j v hj
  rw [fI,cell_of_row h]
  rw [List.getElem?_take] at hj
  split at hj
  ·rw [List.getElem?_drop] at hj;exact hj
  ·cases hj)
 rw [List.length_take,List.length_drop,Nat.min_eq_left (by omega)] at key
 simp only [loadVar,Sem.run_bind,gI h2,Result.andThen_ok,hk,if_true,aL h1,key,Sem.run_pure]
theorem zW {g o:Nat}{vs:List Value}{ty t:TypeId}{d:TypeDesc}{v:Value}(h:w.heap[g]?=some (.cells vs.toArray ty (0,0)))
  (h2:P.underlying t=some d)(hk:qw (jT d)=false)(hv:vs[o]?=some v) :
  (loadVar t ⟨g,o,none⟩).run P w=.ok v w:=by
 simp only [loadVar,Sem.run_bind,gI h2,Result.andThen_ok,hk,Bool.false_eq_true,if_false,run_load,cell_of_row h,hv]
theorem Mod.row (hM:Mod n V0 bC β0 st β a w V){s:Nat}{b:aQ}(hb:st.boxes s=some b)(lb:b.live):w.heap[β s]?=some (.cells (b.cs.den β).toArray b.ty (0,0)):=hM.boxes s b hb lb
theorem gV {cs:List C}{c:C}{s:Nat}(hc:c∈cs)(hs:s∈c.ids):s∈cs.flatMap C.ids:=List.mem_flatMap.2 ⟨c,hc,hs⟩
theorem Ac (hM:Mod n V0 bC β0 st β a w V){t:TypeId}{i:TI}(hi:kq P t=some i){x:SV}{sc:List Prop}{v:SV}(h:iY st.boxes i x=.ret sc v) :
  (Instr.loadAt t (x.den β)).run P w=.ok (v.den β) w/\Live st v:=by
 obtain ⟨info,d,z,h1,h2,h3,h4,h5,-⟩:=aF hi
 unfold iY at h
 split at h
 ·rename_i b o
  split at h
  ·rename_i cs ty hb
   have hrow:=hM.row hb cL
   have hlive:=hM.yO b _ hb
   simp only [Cells.den] at hrow
   have hagg:qw i.k=true->(if Nat.ble (o+i.size) cs.length then Q.ret [] (.agg ((cs.drop o).take i.size)) else .fail)=.ret sc v ->
     (Instr.loadAt t (SV.den β (.c (.ptr b o)))).run P w=.ok (v.den β) w/\Live st v:=by
    intro hk h
    split at h
    ·rename_i hl
     have hl:=Nat.le_of_ble_eq_true hl
     simp only [Q.ret.injEq] at h;obtain ⟨-,rfl⟩:=h
     refine ⟨?_,?_⟩
     ·have:=De (t:=t) (o:=o) (m:=i.size) hrow h1 h2 h5.symm (h4▸hk) (by simpa using hl)
      simp only [Instr.loadAt,Instr.sureAddr,SV.den,C.den,Sem.run_bind,Sem.run_pure,Result.andThen_ok,this]
      rw [List.map_take,List.map_drop]
     ·intro s hs
      obtain ⟨c,hc,hs⟩:=List.mem_flatMap.1 hs
      exact hlive s (gV (List.mem_of_mem_drop (List.mem_of_mem_take hc)) hs)
    ·cases h
   split at h
   ·rename_i hk;exact hagg (by rw [hk];rfl) h
   ·rename_i hk;exact hagg (by rw [hk];rfl) h
   ·rename_i hk1 hk2
    have hk:qw i.k=false:=by
     cases hik:i.k<;>first|rfl|exact absurd hik (hk1 _)|exact absurd hik (hk2 _ _)
    split at h
    ·rename_i c hc
     simp only [Q.ret.injEq] at h;obtain ⟨-,rfl⟩:=h
     refine ⟨?_,?_⟩
     ·have:=zW (t:=t) (o:=o) (v:=c.den β) hrow h2 (h4▸hk) (by simp [hc])
      simp only [Instr.loadAt,Instr.sureAddr,SV.den,C.den,Sem.run_bind,Sem.run_pure,Result.andThen_ok,this]
     ·intro s hs
      exact hlive s (gV (List.mem_of_getElem? hc) hs)
    ·cases h
  ·cases h
  ·split at h<;>cases h
  ·cases h
 ·split at h<;>cases h
 ·cases h
theorem xi.eA:∀(s:xi) {K:C->Prop},s.ex K->∃c,c.ids=[]/\K c
 | .int _,_,⟨_,h⟩=>⟨_,rfl,h⟩
 | .bool,_,⟨_,h⟩=>⟨_,rfl,h⟩
 | .slice,_,⟨_,_,_,h⟩=>⟨_,rfl,h⟩
 | .ptr,_,⟨_,h⟩=>⟨_,rfl,h⟩
 | .str,_,⟨_,h⟩=>⟨_,rfl,h⟩
 | .any,_,⟨_,h⟩=>⟨_,rfl,h⟩
theorem pA:∀(l:List xi) {K:List C->Prop},Ol l K->∃cs,cs.flatMap C.ids=[]/\cs.length=l.length/\K cs
 | [],_,h=>⟨[],rfl,rfl,h⟩
 | s::r,K,h=>by
  obtain ⟨c,hc,h'⟩:=xi.eA s h
  obtain ⟨cs,h1,h2,h3⟩:=pA r h'
  exact ⟨c::cs,by simp [hc,h1],by simp [h2],h3⟩
theorem uh.eA:∀(s:uh) {K:SV->Prop},s.ex K->∃x,x.ids=[]/\((∃c,x=.c c/\∃s',s=.one s')\/∃cs l,x=.agg cs/\s=.agg l/\cs.length=l.length)/\K x
 | .one s,K,h=>by obtain ⟨c,hc,h'⟩:=xi.eA s h;exact ⟨.c c,hc,.inl ⟨c,rfl,s,rfl⟩,h'⟩
 | .agg l,K,h=>by obtain ⟨cs,h1,h2,h'⟩:=pA l h;exact ⟨.agg cs,h1,.inr ⟨cs,l,rfl,rfl,h2⟩,h'⟩
theorem vg:∀(l:List uh) {K:List (Bool×List C)->Prop},PA l K->∃xs,(xs.flatMap fun x=>x.2.flatMap C.ids)=[]/\K xs
 | [],_,h=>⟨[],rfl,h⟩
 | .one s::r,K,h=>by
  obtain ⟨c,hc,h'⟩:=xi.eA s h
  obtain ⟨xs,h1,h2⟩:=vg r h'
  exact ⟨_,by simp [hc,h1],h2⟩
 | .agg l::r,K,h=>by
  obtain ⟨cs,hc,-,h'⟩:=pA l h
  obtain ⟨xs,h1,h2⟩:=vg r h'
  exact ⟨(true,cs)::xs,by simp only [List.flatMap_cons,hc,h1,List.append_nil],h2⟩
theorem Sh.eA:∀(s:Sh) {K:SV->Prop},s.ex K->∃x,x.ids=[]/\K x
 | .val s,K,h=>by obtain ⟨x,hx,-,h'⟩:=uh.eA s h;exact ⟨x,hx,h'⟩
 | .oQ l,K,h=>by obtain ⟨xs,hx,h'⟩:=vg l h;exact ⟨.oQ xs,hx,h'⟩
 | .none,K,h=>⟨.oQ [],rfl,h⟩
theorem jt {x:SV}(h:x.ids=[])(β β':Nat->Nat):x.den β=x.den β':=SV.bL fun s hs=>by rw [h] at hs;cases hs
theorem bO {x:SV}(h:x.ids=[]):Live st x:=fun s hs=>by rw [h] at hs;cases hs
theorem DB:∀(cs:List C) (p:Addr) (i:Nat) {k:Prop},V.MJ p i cs k->(∀j c,cs[j]?=some c->V.at (p.add (i+j)) (c.den fun _=>0))/\k
 | [],_,_,_,h=>⟨fun j c hj=>by simp at hj,h⟩
 | c::r,p,i,k,⟨h1,h2⟩=>by
  obtain ⟨h3,h4⟩:=DB r p (i+1) h2
  refine ⟨fun j d hj=>?_,h4⟩
  cases j with
  | zero=>simp at hj;subst hj;exact h1
  | succ j=>simp at hj;have:=h3 j d hj;rwa [show i+1+j=i+(j+1) from by omega] at this
theorem Mod.Tw (hM:Mod n V0 bC β0 st β a w V){p:Addr}{v:Value}(h:V.at p v):w.cell? p=some v:=by
 obtain ⟨hH,hc⟩:=h
 unfold World.cell? at hc ⊢
 split at hc
 ·rename_i c e f hb
  rw [(hM.oR p.block _ ⟨hH,hb⟩).1]
  exact hc
 ·cases hc
theorem Hb {i:TI}{l:List xi}(h:kv i=.agg l):qw i.k=true/\l.length=i.zero.length:=by
 unfold kv at h
 split at h
 ·rename_i hk;simp only [uh.agg.injEq] at h;subst h;exact ⟨by rw [hk];rfl,by simp⟩
 ·rename_i hk;simp only [uh.agg.injEq] at h;subst h;exact ⟨by rw [hk];rfl,by simp⟩
 ·split at h<;>cases h
theorem Hc {i:TI}{s:xi}(h:kv i=.one s):qw i.k=false:=by
 unfold kv at h
 split at h
 ·cases h
 ·cases h
 ·rename_i h1 h2
  cases hik:i.k<;>first|rfl|exact absurd hik (h1 _)|exact absurd hik (h2 _ _)
theorem O6 (hM:Mod n V0 bC β0 st β a w V){t:TypeId}{i:TI}(hi:kq P t=some i)(hz:i.zero.length=i.size){p:OA}{x:SV}{k:Prop}
  (hx:x.ids=[])(hs:(∃c,x=.c c/\∃s',kv i=.one s')\/∃cs l,x=.agg cs/\kv i=.agg l/\cs.length=l.length)(h:V.Ln p x k) :
  (Instr.loadAt t (.pointer p)).run P w=.ok (x.den β) w/\k:=by
 obtain ⟨info,d,z,h1,h2,h3,h4,h5,-⟩:=aF hi
 rcases hs with ⟨c,rfl,s,hs⟩|⟨cs,l,rfl,hs,hl⟩
 ·obtain ⟨⟨ad,rfl,hat⟩,hk⟩:=h
  have hkk:=Hc hs
  rw [h4] at hkk
  refine ⟨?_,hk⟩
  simp only [Instr.loadAt,Instr.sureAddr,Sem.run_bind,Sem.run_pure,Result.andThen_ok,loadVar,gI h2,hkk,Bool.false_eq_true,if_false,run_load,hM.Tw hat]
  rw [jt hx β fun _=>0]
  rfl
 ·obtain ⟨ad,rfl,hr⟩:=h
  obtain ⟨hkk,hl2⟩:=Hb hs
  rw [h4] at hkk
  obtain ⟨h6,h7⟩:=DB cs ad 0 hr
  refine ⟨?_,h7⟩
  have key:=run_loadCells_list (P:=P) (w:=w) ad (cs.map (C.den fun _=>0)) (by
   intro j v hj
   rw [List.getElem?_map] at hj
   cases hc:cs[j]? with
   | none=>rw [hc] at hj;cases hj
   | some c=>
    rw [hc] at hj
    simp only [Option.map_some,Option.some.injEq] at hj
    subst hj
    have:=hM.Tw (h6 j c hc)
    simpa using this)
  rw [List.length_map,hl,hl2,hz,h5] at key
  simp only [Instr.loadAt,Instr.sureAddr,Sem.run_bind,Sem.run_pure,Result.andThen_ok,loadVar,gI h2,hkk,if_true,aL h1,key]
  rw [jt hx β fun _=>0]
  rfl
theorem Ae (hM:Mod n V0 bC β0 st β a w V){t:TypeId}{i:TI}(hi:kq P t=some i){b o:Nat}{vs:List Value}{ty:TypeId}(hb:st.boxes b=some ⟨.row vs,ty⟩\/(st.boxes b=some ⟨.a_ vs,ty⟩/\i.size≠0)){x:SV}
  (hx:x.ids=[])(hs:(∃c,x=.c c/\∃s',kv i=.one s')\/∃cs l,x=.agg cs/\kv i=.agg l/\cs.length=l.length)(h:MN vs o i.size x) :
  (Instr.loadAt t (SV.den β (.c (.ptr b o)))).run P w=.ok (x.den β) w:=by
 obtain ⟨info,d,z,h1,h2,h3,h4,h5,-⟩:=aF hi
 have hrow:w.heap[β b]?=some (.cells vs.toArray ty (0,0)):=by
  rcases hb with hb|⟨hb,hz⟩
  ·exact hM.row hb cd
  ·refine hM.row hb (fw fun e=>?_)
   subst e
   rcases hs with ⟨c,rfl,s,hs⟩|⟨cs,l,rfl,hs,hl⟩
   ·simp [MN] at h
   ·have:=h.1
    simp at this
    omega
 rcases hs with ⟨c,rfl,s,hs⟩|⟨cs,l,rfl,hs,hl⟩
 ·have hkk:=Hc hs
  rw [h4] at hkk
  have:=zW (t:=t) (o:=o) hrow h2 hkk h
  rw [show SV.den β (.c c)=C.den (fun _=>0) c from jt (x:=.c c) hx β _]
  show (Instr.loadAt t (.pointer (some ⟨β b,o,none⟩))).run P w=_
  simp only [Instr.loadAt,Instr.sureAddr,Sem.run_bind,Sem.run_pure,Result.andThen_ok,this]
 ·obtain ⟨hkk,hl2⟩:=Hb hs
  rw [h4] at hkk
  obtain ⟨h6,h7⟩:=h
  have:=De (t:=t) (o:=o) (m:=i.size) hrow h1 h2 h5.symm hkk h6
  simp only [Instr.loadAt,Instr.sureAddr,C.den,SV.den,Sem.run_bind,Sem.run_pure,Result.andThen_ok,this,h7]
  have:=jt (x:=.agg cs) hx β fun _=>0
  simp only [SV.den,Value.agg.injEq] at this
  rw [this]
theorem OZ {c:C}(h:∀p∈eW c,p):(c.den β).oneCell'=true:=by
 cases c with
 | v x=>cases x<;>first|rfl|exact (h False (by simp [eW])).elim
 | w x=>exact h (x.oneCell'=true) (by simp [eW])
 | _=>rfl
theorem HI {v:Value}(h:v.oneCell'=true):v.cells=#[v]:=by cases v<;>first|rfl|simp [Value.oneCell'] at h
theorem SV.qH {x:SV}(ht:x.vB=false)(h:∀p∈x.eW,p):(x.den β).cells=(x.cells.map (C.den β)).toArray/\∀v∈x.cells.map (C.den β),v.oneCell'=true:=by
 have h1:∀c∈x.cells,(c.den β).oneCell'=true:=fun c hc=>OZ fun p hp=>h p (List.mem_flatMap.2 ⟨c,hc,hp⟩)
 refine ⟨?_,fun v hv=>by obtain ⟨c,hc,rfl⟩:=List.mem_map.1 hv;exact h1 c hc⟩
 cases x with
 | c c=>exact HI (h1 c (by simp [SV.cells]))
 | agg cs=>rfl
 | oQ xs=>cases ht
theorem d_ {g:Nat}{old cs:Array Value}{ty:TypeId}(h:w.heap[g]?=some (.cells old ty (0,0))):(w.setRow g cs).heap=w.heap.setIfInBounds g (.cells cs ty (0,0)):=by
 apply Array.ext_getElem?
 intro i
 by_cases e:i=g
 ·subst e
  rw [setRow_heap w i old cs ty (0,0) h,Array.getElem?_setIfInBounds,if_pos rfl,if_pos (aE h)]
 ·rw [setRow_other w g i cs e,Array.getElem?_setIfInBounds,if_neg (Ne.symm e)]
theorem fD {cs:List C}{vs:List Value}(h:ky cs=some vs):cs.map (C.den β)=vs/\cs.flatMap C.ids=[]:=by
 induction cs generalizing vs with
 | nil=>simp [ky] at h;subst h;exact ⟨rfl,rfl⟩
 | cons c r ih=>
  simp only [ky] at h
  split at h
  ·rename_i v ws hv hws
   simp only [Option.some.injEq] at h
   subst h
   obtain ⟨h1,h2⟩:=ih hws
   have:c.den β=v/\c.ids=[]:=by cases c<;>simp_all [C.val?,C.den,C.ids]
   exact ⟨by simp [h1,this.1],by simp [h2,this.2]⟩
  ·cases h
theorem pX {cs xs:List C}{o:Nat}:(setCells cs o xs).map (C.den β)=(cs.map (C.den β)).take o++xs.map (C.den β)++(cs.map (C.den β)).drop (o+xs.length):=by
 simp [setCells,List.map_take,List.map_drop]
theorem pW {cs xs:List C}{o s:Nat}(h:s∈(setCells cs o xs).flatMap C.ids):s∈cs.flatMap C.ids\/s∈xs.flatMap C.ids:=by
 obtain ⟨c,hc,hs⟩:=List.mem_flatMap.1 h
 simp only [setCells,List.mem_append] at hc
 rcases hc with (hc|hc)|hc
 ·exact .inl (gV (List.mem_of_mem_take hc) hs)
 ·exact .inr (gV hc hs)
 ·exact .inl (gV (List.mem_of_mem_drop hc) hs)
theorem lr {vs xs:List Value}{o:Nat}(h:o+xs.length<=vs.length):dg vs o xs=vs.take o++xs++vs.drop (o+xs.length):=by
 unfold dg
 split
 ·rename_i x
  have:o<vs.length:=by simp at h;omega
  rw [List.set_eq_take_append_cons_drop,if_pos this]
  simp
 ·rfl
theorem SV.qI {x:SV}{s:Nat}(ht:x.vB=false):s∈x.cells.flatMap C.ids->s∈x.ids:=by
 cases x with
 | c c=>simp [SV.cells,SV.ids]
 | agg cs=>exact id
 | oQ xs=>cases ht
theorem FC (hM:Mod n V0 bC β0 st β a w V){t:TypeId}{i:TI}(hi:kq P t=some i){av xv:SV}(hx:Live st xv){sc:List Prop}{s:Nat}{b:aQ}
  (h:gH st.boxes i av xv=.sW sc s b)(hsc:∀p∈sc,p) :
  ∃w',(Instr.storeAt t (av.den β) (xv.den β)).run P w=.ok () w'/\Mod n V0 bC β0 (st.box s b) β a w' V:=by
 obtain ⟨info,d,z,h1,h2,h3,h4,h5,-⟩:=aF hi
 unfold gH at h
 split at h
 ·rename_i g o
  split at h
  ·rename_i hcond
   simp only [Bool.and_eq_true,beq_eq,Bool.not_eq_eq_eq_not] at hcond
   obtain ⟨hlen,hnt⟩:=hcond
   have core:∀(old:List Value)(ty:TypeId)(nb:aQ),w.heap[β g]?=some (.cells old.toArray ty (0,0))->(∀p∈xv.eW,p)->o+xv.cells.length<=old.length->nb.ty=ty ->
     nb.cs.den β=old.take o++xv.cells.map (C.den β)++old.drop (o+xv.cells.length) ->
     ∃w',(Instr.storeAt t (SV.den β (.c (.ptr g o))) (xv.den β)).run P w=.ok () w'/\w'.heap=w.heap.setIfInBounds (β g) (nb.obj β)/\w'.os=w.os/\w'.tape=w.tape/\w'.output=w.output:=by
    intro old ty nb hrow hone hle hty hden
    obtain ⟨hc1,hc2⟩:=SV.qH (β:=β) hnt hone
    have key:=run_storeCells_at (P:=P) (β g) o ty (xv.cells.map (C.den β)) 0 old.toArray w hrow (by simpa using hle) hc2
    refine ⟨w.setRow (β g) (old.take o++xv.cells.map (C.den β)++old.drop (o+xv.cells.length)).toArray,?_,?_⟩
    ·generalize xv.den β=v at hc1
     show (Instr.storeAt t (.pointer (some ⟨β g,o,none⟩)) v).run P w=_
     simp only [Instr.storeAt,Instr.sureAddr,Sem.run_bind,Sem.run_pure,Result.andThen_ok,storeVar,aL h1,hc1]
     simp [hlen,h5]
     simpa [hlen,h5] using key
    ·exact ⟨by rw [d_ hrow,aQ.obj,hden,hty],rfl,rfl,rfl⟩
   split at h
   ·rename_i cs ty hb
    split at h
    ·rename_i hl
     have hl:=Nat.le_of_ble_eq_true hl
     simp only [Q.sW.injEq] at h;obtain ⟨rfl,rfl,rfl⟩:=h
     have hrow:=hM.row hb cL
     obtain ⟨w',hr,k1,k2,k3,k4⟩:=core _ _ ⟨.lit (setCells cs o xv.cells),ty⟩ hrow hsc (by simpa [Cells.den,hlen] using hl) rfl (by simp only [Cells.den];exact pX)
     refine ⟨w',hr,hM.sW hb cL ?_ k1 k2 k3 k4⟩
     intro s' hs'
     rcases pW hs' with h'|h'
     ·exact hM.yO _ _ hb s' h'
     ·exact hx s' (SV.qI hnt h')
    ·cases h
   ·rename_i vs ty hb
    split at h
    ·rename_i xs hxs
     simp only [Q.sW.injEq] at h;obtain ⟨rfl,rfl,rfl⟩:=h
     have hrow:=hM.row hb cd
     obtain ⟨hd1,hd2⟩:=fD (β:=β) hxs
     have hle:o+i.size<=vs.length:=hsc _ (by simp)
     have hxl:xs.length=i.size:=by rw [←hd1,List.length_map,hlen]
     obtain ⟨w',hr,k1,k2,k3,k4⟩:=core _ _ ⟨.row (dg vs o xs),ty⟩ hrow (fun p hp=>hsc p (List.mem_append_left _ hp)) (by simpa [Cells.den,hlen] using hle) rfl (by
      simp only [Cells.den];rw [lr (by omega),hd1,hlen,hxl])
     exact ⟨w',hr,hM.sW hb cd (by intro s' hs';simp [Cells.ids] at hs') k1 k2 k3 k4⟩
    ·cases h
   ·rename_i vs ty hb
    split at h
    ·cases h
    rename_i hz
    split at h
    ·rename_i xs hxs
     simp only [Q.sW.injEq] at h;obtain ⟨rfl,rfl,rfl⟩:=h
     obtain ⟨hd1,hd2⟩:=fD (β:=β) hxs
     have hle:o+i.size<=vs.length:=hsc _ (by simp)
     have hlv:aQ.live ⟨.a_ vs,ty⟩:=fw fun e=>by
      subst e
      simp at hle
      exact hz (by rw [hle.2];rfl)
     have hrow:=hM.row hb hlv
     have hxl:xs.length=i.size:=by rw [←hd1,List.length_map,hlen]
     obtain ⟨w',hr,k1,k2,k3,k4⟩:=core _ _ ⟨.a_ (dg vs o xs),ty⟩ hrow (fun p hp=>hsc p (List.mem_append_left _ hp)) (by simpa [Cells.den,hlen] using hle) rfl (by
      simp only [Cells.den];rw [lr (by omega),hd1,hlen,hxl])
     exact ⟨w',hr,hM.sW hb hlv (by intro s' hs';simp [Cells.ids] at hs') k1 k2 k3 k4⟩
    ·cases h
   ·cases h
  ·cases h
 ·cases h
end Go.bE
namespace Go.bE
variable {P:Program} {T:cV} {n:Nat} {V0:View} {bC:Ey} {β0:Nat->Nat} {st:St} {β:Nat->Nat} {a:Act} {w:World} {V:View}
theorem HV (xs:List Value):∀(cs:Array Value)(off:Nat),off+xs.length<=cs.size ->
  (xs.toArray.zipIdx.foldl (fun cs (p:Value×Nat)=>cs.setIfInBounds (off+p.2) p.1) cs)=(cs.toList.take off++xs++cs.toList.drop (off+xs.length)).toArray:=by
 have gen:∀(xs:List Value)(k:Nat)(cs:List Value)(off:Nat),off+k+xs.length<=cs.length ->
   (xs.zipIdx k).foldl (fun (cs:Array Value) (p:Value×Nat)=>cs.setIfInBounds (off+p.2) p.1) cs.toArray=(cs.take (off+k)++xs++cs.drop (off+k+xs.length)).toArray:=by
  intro xs
  induction xs with
  | nil=>intro k cs off _;simp
  | cons x r ih=>
   intro k cs off h
   simp only [List.length_cons] at h
   simp only [List.zipIdx_cons,List.foldl_cons,List.setIfInBounds_toArray]
   rw [ih (k+1) (cs.set (off+k) x) off (by simp;omega)]
   congr 1
   have hlt:off+k<cs.length:=by omega
   rw [List.set_eq_take_append_cons_drop,if_pos hlt]
   have e1:(cs.take (off+k)++x::cs.drop (off+k+1)).take (off+(k+1))=cs.take (off+k)++[x]:=by
    rw [List.take_append,List.take_of_length_le (by simp;omega),List.length_take,Nat.min_eq_left (by omega),show off+(k+1)-(off+k)=1 from by omega]
    simp
   have e2:(cs.take (off+k)++x::cs.drop (off+k+1)).drop (off+(k+1)+r.length)=cs.drop (off+k+(r.length+1)):=by
    rw [List.drop_append,List.drop_of_length_le (by simp;omega),List.length_take,Nat.min_eq_left (by omega),show off+(k+1)+r.length-(off+k)=r.length+1 from by omega]
    simp only [List.nil_append,List.drop_succ_cons,List.drop_drop]
    congr 1;omega
   rw [e1,e2]
   simp
 intro cs off h
 have:=gen xs 0 cs.toList off (by simpa using h)
 simpa [←Array.foldl_toList] using this
theorem m_ {place:Nat->Option (Nat×Nat)}:∀(ps:List (Nat×SV))(cells out:List C),nN place cells ps=some out ->
  (∀x∈ps,∀v:C,v∈x.2.cells->∀p∈eW v,p) ->
  Instr.fill place (cells.map (C.den β)).toArray (ps.map fun x=>(x.1,x.2.den β))=some (out.map (C.den β)).toArray /\
  (∀s∈out.flatMap C.ids,s∈cells.flatMap C.ids\/∃x∈ps,s∈x.2.ids)
 | [],cells,out,h,_=>by
  simp only [nN,Option.some.injEq] at h;subst h
  exact ⟨rfl,fun s hs=>.inl hs⟩
 | (i,x)::r,cells,out,h,hone=>by
  simp only [nN] at h
  split at h
  ·cases h
  ·rename_i off size hp
   split at h
   ·rename_i hc
    simp only [Bool.and_eq_true,beq_eq,Bool.not_eq_eq_eq_not] at hc
    obtain ⟨⟨hl,hle⟩,hnt⟩:=hc
    have hle:=Nat.le_of_ble_eq_true hle
    have hnt:x.vB=false:=by simpa using hnt
    have h1:∀p∈x.eW,p:=fun p hp=>by
     obtain ⟨v,hv,hp⟩:=List.mem_flatMap.1 hp
     exact hone (i,x) (by simp) v hv p hp
    obtain ⟨hc1,-⟩:=SV.qH (β:=β) hnt h1
    obtain ⟨k1,k2⟩:=m_ r _ _ h (fun y hy=>hone y (List.mem_cons_of_mem _ hy))
    refine ⟨?_,?_⟩
    ·simp only [List.map_cons,Instr.fill,hp]
     rw [if_neg (by rw [hc1];simp [hl];omega)]
     rw [hc1]
     have:=HV (x.cells.map (C.den β)) (cells.map (C.den β)).toArray off (by simpa [hl] using hle)
     rw [this]
     rw [←k1,pX]
     simp
    ·intro s hs
     rcases k2 s hs with h'|⟨y,hy,h'⟩
     ·rcases pW h' with h''|h''
      ·exact .inl h''
      ·exact .inr ⟨(i,x),by simp,SV.qI hnt h''⟩
     ·exact .inr ⟨y,List.mem_cons_of_mem _ hy,h'⟩
   ·cases h
theorem jz (hM:Mod n V0 bC β0 st β a w V):∀(l:List (Nat×Operand))(ps:List (Nat×SV)),partsOf st.aY l=some ps ->
  (l.map fun x=>(x.1,a.eval x.2))=(ps.map fun x=>(x.1,x.2.den β))/\∀x∈ps,Live st x.2
 | [],ps,h=>by simp only [partsOf,Option.some.injEq] at h;subst h;exact ⟨rfl,fun x hx=>by cases hx⟩
 | (i,o)::r,ps,h=>by
  simp only [partsOf] at h
  split at h
  ·rename_i x l hx hl
   simp only [Option.some.injEq] at h;subst h
   obtain ⟨h1,h2⟩:=jz hM r l hl
   refine ⟨by simp [h1,hM.eval hx],fun y hy=>?_⟩
   rcases List.mem_cons.1 hy with rfl|hy
   ·exact hM.live hx
   ·exact h2 y hy
  ·cases h
theorem fy (hM:Mod n V0 bC β0 st β a w V):∀(l:List Operand)(xs:List SV),bS st.aY l=some xs ->
  l.map a.eval=xs.map (SV.den β)/\∀x∈xs,Live st x
 | [],xs,h=>by simp only [bS,Option.some.injEq] at h;subst h;exact ⟨rfl,fun x hx=>by cases hx⟩
 | o::r,xs,h=>by
  simp only [bS] at h
  split at h
  ·rename_i x l hx hl
   simp only [Option.some.injEq] at h;subst h
   obtain ⟨h1,h2⟩:=fy hM r l hl
   refine ⟨by simp [h1,hM.eval hx],fun y hy=>?_⟩
   rcases List.mem_cons.1 hy with rfl|hy
   ·exact hM.live hx
   ·exact h2 y hy
  ·cases h
theorem lD (hT:cV.ok P T):∀(gs:List Field)(pl:List (Nat×Nat)),fr T (gs.map fun f=>(f.type,f.offset))=some pl ->
  ∀w:World,(gs.mapM fun f:Field=>do pure (f.offset,←sizeOf f.type)).run P w=.ok pl w
 | [],pl,h,w=>by simp only [List.map_nil,fr,Option.some.injEq] at h;subst h;simp
 | f::r,pl,h,w=>by
  simp only [List.map_cons,fr] at h
  split at h
  ·rename_i i l hi hl
   simp only [Option.some.injEq] at h;subst h
   obtain ⟨info,d,z,h1,h2,h3,h4,h5,-⟩:=aF (hT _ _ hi)
   have:=lD hT r l hl w
   simp only [bind_pure_comp] at this
   simp [List.mapM_cons,aL h1,this,h5]
  ·cases h
theorem ee {i:TI}{z:Value}(h:i.zero=z.cells.toList.map C.ofConst):(i.zero.map (C.den β)).toArray=z.cells/\i.zero.flatMap C.ids=[]:=by
 rw [h]
 exact ⟨by rw [Df],A9 _⟩
theorem Bm {ps:List (Nat×SV)}(h:∀p∈ps.flatMap (fun x=>x.2.eW),p):∀x∈ps,∀v:C,v∈x.2.cells->∀p∈eW v,p:=
 fun x hx v hv p hp=>h p (List.mem_flatMap.2 ⟨x,hx,List.mem_flatMap.2 ⟨v,hv,hp⟩⟩)
theorem parts_eq {parts:Array (Nat×Operand)}{ps:List (Nat×SV)}(h:(parts.toList.map fun x=>(x.1,a.eval x.2))=(ps.map fun x=>(x.1,x.2.den β))) :
  (parts.map fun x=>(x.1,a.eval x.2)).toList=ps.map fun x=>(x.1,x.2.den β):=by rw [Array.toList_map];exact h
theorem Ax (hT:cV.ok P T)(hM:Mod n V0 bC β0 st β a w V){t:TypeId}{i:TI}(hi:kq P t=some i){fs:List (TypeId×Nat)}(hk:i.k=.struct fs)
  {parts:Array (Nat×Operand)}{ps:List (Nat×SV)}(hp:partsOf st.aY parts.toList=some ps){pl:List (Nat×Nat)}(hpl:fr T fs=some pl)
  {cs:List C}(hf:nN (fun j=>pl[j]?) i.zero ps=some cs)(hsc:∀p∈ps.flatMap (fun x=>x.2.eW),p) :
  (Instr.build t (parts.map fun x=>(x.1,a.eval x.2))).run P w=.ok (SV.den β (.agg cs)) w/\Live st (.agg cs):=by
 obtain ⟨info,d,z,h1,h2,h3,h4,h5,h6,h7⟩:=aF hi
 obtain ⟨q1,q2⟩:=jz hM _ _ hp
 rw [h4] at hk
 obtain ⟨gs,rfl,rfl⟩:=iS hk
 obtain ⟨z1,z2⟩:=ee (β:=β) h7
 obtain ⟨f1,f2⟩:=m_ (β:=β) _ _ _ hf (Bm hsc)
 have hm:=lD hT gs.toList pl hpl w
 refine ⟨?_,?_⟩
 ·have SN:(gs.mapM fun f:Field=>do pure (f.offset,←sizeOf f.type)).run P w=.ok pl.toArray w:=by
   rw [Array.mapM_eq_mapM_toList]
   simp only [Sem.run_map,hm,Result.andThen_ok]
  simp only [Instr.build,Sem.run_bind,iI h1 h3,Result.andThen_ok,aj h2,SN]
  rw [parts_eq q1,←z1]
  have:(fun j:Nat=>pl.toArray[j]?)=fun j:Nat=>pl[j]?:=by funext j;simp
  rw [this,f1]
  rfl
 ·intro s hs
  rcases f2 s hs with h|⟨x,hx,h⟩
  ·rw [z2] at h;cases h
  ·exact q2 x hx s h
theorem Ck (hT:cV.ok P T)(hM:Mod n V0 bC β0 st β a w V){t:TypeId}{i:TI}(hi:kq P t=some i){m:Nat}{e:TypeId}(hk:i.k=.arr m e)
  {parts:Array (Nat×Operand)}{ps:List (Nat×SV)}(hp:partsOf st.aY parts.toList=some ps){ei:TI}(he:aC T e=some ei)
  {cs:List C}(hf:nN (fun j=>some (j*ei.size,ei.size)) i.zero ps=some cs)(hsc:∀p∈ps.flatMap (fun x=>x.2.eW),p) :
  (Instr.build t (parts.map fun x=>(x.1,a.eval x.2))).run P w=.ok (SV.den β (.agg cs)) w/\Live st (.agg cs):=by
 obtain ⟨info,d,z,h1,h2,h3,h4,h5,h6,h7⟩:=aF hi
 obtain ⟨gT,ed,ez,e1,e2,e3,e4,e5,e6,e7⟩:=aF (hT _ _ he)
 obtain ⟨q1,q2⟩:=jz hM _ _ hp
 rw [h4] at hk
 obtain rfl:=me hk
 obtain ⟨z1,z2⟩:=ee (β:=β) h7
 obtain ⟨f1,f2⟩:=m_ (β:=β) _ _ _ hf (Bm hsc)
 refine ⟨?_,?_⟩
 ·simp only [Instr.build,Sem.run_bind,iI h1 h3,Result.andThen_ok,aj h2,aL e1]
  rw [parts_eq q1,←z1,←e5,f1]
  rfl
 ·intro s hs
  rcases f2 s hs with h|⟨x,hx,h⟩
  ·rw [z2] at h;cases h
  ·exact q2 x hx s h
theorem Iq {α:Type}[Inhabited α](zs:List α)(m:Nat):((List.range (m*zs.length)).map fun j=>zs.toArray[j%zs.length]!)=(List.replicate m zs).flatten:=by
 induction m with
 | zero=>simp
 | succ m ih=>
  rw [List.replicate_succ',List.flatten_append,←ih,Nat.succ_mul,List.range_add,List.map_append]
  congr 1
  simp only [List.flatten_cons,List.flatten_nil,List.append_nil,List.map_map]
  apply List.ext_getElem?
  intro j
  rw [List.getElem?_map]
  by_cases hj:j<zs.length
  ·rw [List.getElem?_range hj]
   simp only [Option.map_some,Function.comp]
   rw [Nat.add_comm,Nat.add_mul_mod_self_right,Nat.mod_eq_of_lt hj]
   simp [hj]
  ·rw [List.getElem?_eq_none (by simp;omega),List.getElem?_eq_none (by omega)];rfl
theorem ML (m:Nat)(zs:List C):(rep m zs).map (C.den β)=(List.replicate m (zs.map (C.den β))).flatten:=by
 unfold rep;rw [List.map_flatten,List.map_replicate]
theorem MK {m:Nat}{zs:List C}(h:zs.flatMap C.ids=[]):(rep m zs).flatMap C.ids=[]:=by
 unfold rep
 induction m with
 | zero=>rfl
 | succ m ih=>rw [List.replicate_succ,List.flatten_cons,List.flatMap_append,h,ih];rfl
theorem qp (m:Nat)(zs:List Value):oP m zs=(List.replicate m zs).flatten:=by
 unfold oP
 split
 ·rename_i z
  induction m with
  | zero=>rfl
  | succ m ih=>rw [List.replicate_succ,List.replicate_succ,List.flatten_cons,ih];rfl
 ·rfl
theorem qB {z:Value}{m:Nat}(k:Nat)(hk:k=m*z.cells.size) :
  ((Array.range k).map fun j=>z.cells[j%z.cells.size]!)=((List.replicate m z.cells.toList).flatten).toArray:=by
 apply Array.ext'
 rw [Array.toList_map,Array.toList_range]
 subst hk
 have:=Iq z.cells.toList m
 simpa using this
theorem uy {z:Value}{m:Nat}(h0:m*z.cells.size=0):(List.replicate m z.cells.toList).flatten=[]:=by
 rcases Nat.mul_eq_zero.1 h0 with h|h
 ·subst h;rfl
 ·have:z.cells.toList=[]:=by
   have:z.cells.toList.length=0:=by simpa using h
   exact List.length_eq_zero_iff.1 this
  rw [this];simp
theorem Kz:Array.range 0=#[]:=rfl
theorem uA (hT:cV.ok P T)(hM:Mod n V0 bC β0 st β a w V){t:TypeId}{i:TI}(hi:kq P t=some i){e:TypeId}(hk:i.k=.slice e){len:Nat}
  {parts:Array (Nat×Operand)}{ps:List (Nat×SV)}(hp:partsOf st.aY parts.toList=some ps){ei:TI}(he:aC T e=some ei)
  (hlen:len*ei.size<=16777216)(hzl:ei.zero.length=ei.size)(hz0:ei.size≠0)
  {cs:List C}(hf:nN (fun j=>some (j*ei.size,ei.size)) (rep len ei.zero) ps=some cs)(hsc:∀p∈ps.flatMap (fun x=>x.2.eW),p) :
  (Instr.buildSlice t len (parts.map fun x=>(x.1,a.eval x.2))).run P w=.ok (.slice (some ⟨w.heap.size,0,none⟩) len len) (w.alloc (aQ.obj β ⟨.lit cs,e⟩)) /\
  ∀s∈cs.flatMap C.ids,∃b,st.boxes s=some b:=by
 obtain ⟨info,d,z,h1,h2,h3,h4,h5,h6,h7⟩:=aF hi
 obtain ⟨gT,ed,ez,e1,e2,e3,e4,e5,e6,e7⟩:=aF (hT _ _ he)
 obtain ⟨q1,q2⟩:=jz hM _ _ hp
 rw [h4] at hk
 obtain rfl:=aS hk
 obtain ⟨z1,z2⟩:=ee (β:=β) e7
 obtain ⟨f1,f2⟩:=m_ (β:=β) _ _ _ hf (Bm hsc)
 have hzs:ez.cells.size=gT.size:=by rw [←z1];simp [hzl,e5]
 refine ⟨?_,?_⟩
 ·have hr2:((List.replicate len ez.cells.toList).flatten).toArray=((rep len ei.zero).map (C.den β)).toArray:=by
   rw [ML,←z1]
  have hn:¬len*gT.size>2^24:=by rw [←e5];simpa using hlen
  simp only [Instr.buildSlice,Sem.run_bind,aj h2,Result.andThen_ok,aL e1,Sem.run_ite,if_neg hn]
  by_cases h0:len*gT.size=0
  ·have hr:=uy (z:=ez) (m:=len) (by rw [hzs];exact h0)
   rw [hr] at hr2
   simp only [h0,if_true,Sem.run_pure,Result.andThen_ok,Kz,Array.map_empty,←hr2] at f1 ⊢
   rw [parts_eq q1,←e5]
   have Zf:Instr.fill (fun j=>some (j*ei.size,ei.size)) #[] (ps.map fun x=>(x.1,x.2.den β))=some (cs.map (C.den β)).toArray:=f1
   rw [Zf]
   simp only [Sem.run_bind,newRow,run_newObj,Result.andThen_ok,Sem.run_pure]
   rfl
  ·simp only [h0,if_false,iI e1 e3,Sem.run_pure,Result.andThen_ok]
   rw [qB (z:=ez) (m:=len) (len*gT.size) (by rw [hzs]),hr2,parts_eq q1,←e5,f1]
   simp only [Sem.run_bind,newRow,run_newObj,Result.andThen_ok,Sem.run_pure]
   rfl
 ·intro s hs
  rcases f2 s hs with h|⟨x,hx,h⟩
  ·rw [MK z2] at h;cases h
  ·exact q2 x hx s h
theorem Ap {x:Int}(h0:0<=x)(h1:x<9223372036854775808):i64.wrap x=x:=by
 unfold IntKind.wrap IntKind.bits IntKind.signed
 simp
 omega
theorem xU (hT:cV.ok P T){t:TypeId}{i:TI}(hi:kq P t=some i){e:TypeId}(hk:i.k=.slice e){ei:TI}(he:aC T e=some ei)
  {k1 k2:IntKind}{l c:Int}(hb:ei.bytes≠0)(hs:ei.size≠0){zs:List Value}(hz:ky ei.zero=some zs)(hzl:ei.size=zs.length)
  (c1:0<=l)(c2:l<=c)(c3:(ei.bytes:Int)*c<=140737488355328) :
  (Instr.makeSlice t (.int k1 l) (.int k2 c)).run P w=.ok (.slice (some ⟨w.heap.size,0,none⟩) l.toNat c.toNat) (w.alloc (aQ.obj β ⟨.row (oP c.toNat zs),e⟩)):=by
 obtain ⟨info,d,z,h1,h2,h3,h4,h5,h6,h7⟩:=aF hi
 obtain ⟨gT,ed,ez,e1,e2,e3,e4,e5,e6,e7⟩:=aF (hT _ _ he)
 rw [h4] at hk
 obtain rfl:=aS hk
 obtain ⟨z1,z2⟩:=ee (β:=β) e7
 obtain ⟨d1,-⟩:=fD (β:=β) hz
 have hzs:ez.cells.size=gT.size:=by rw [←z1,d1];simp [←hzl,e5]
 have hbig:c<=140737488355328:=by
  have:1<=(ei.bytes:Int):=by omega
  have:=Int.mul_le_mul_of_nonneg_right this (by omega:0<=c)
  omega
 have w1:i64.wrap l=l:=Ap c1 (by omega)
 have w2:i64.wrap c=c:=Ap (by omega) (by omega)
 rw [e6] at c3
 have t1:(decide (c<0)||decide ((gT.bytes:Int)*c>2^48))=false:=by
  rw [show ((2:Int)^48)=281474976710656 from by decide]
  simp;omega
 have t2:decide (l<0)=false:=by simp;omega
 have t3:decide (l>c)=false:=by simp;omega
 have hrow:(List.replicate c.toNat ez.cells.toList).flatten=oP c.toNat zs:=by rw [qp,←d1,←z1]
 simp only [Instr.makeSlice,Sem.run_bind,aj h2,Result.andThen_ok,jP e1,asInt,asIntOf,Sem.run_pure,w1,w2,t1,t2,t3,Bool.or_self,Bool.false_eq_true,if_false,run_askRoom,aL e1,Sem.run_ite]
 by_cases h0:c.toNat*gT.size=0
 ·have hr:=uy (z:=ez) (m:=c.toNat) (by rw [hzs];exact h0)
  rw [hr] at hrow
  simp only [h0,if_true,Sem.run_bind,Sem.run_pure,Result.andThen_ok,Kz,Array.map_empty,newRow,run_newObj,←hrow]
  rfl
 ·simp only [h0,if_false,iI e1 e3,Result.andThen_ok]
  rw [qB (z:=ez) (m:=c.toNat) (c.toNat*gT.size) (by rw [hzs]),hrow]
  simp only [Sem.run_bind,newRow,run_newObj,Result.andThen_ok,Sem.run_pure]
  rfl
end Go.bE
namespace Go.bE
variable {P:Program} {T:cV} {n:Nat} {V0:View} {bC:Ey} {β0:Nat->Nat} {st:St} {β:Nat->Nat} {a:Act} {w:World} {V:View}
theorem CO {gs:Array Field}{f ft off:Nat}(h:(gs.toList.map fun f=>(f.type,f.offset))[f]?=some (ft,off)):∃Lh,gs[f]?=some Lh/\Lh.type=ft/\Lh.offset=off:=by
 rw [List.getElem?_map] at h
 cases hg:gs.toList[f]? with
 | none=>rw [hg] at h;cases h
 | some Lh=>
  rw [hg] at h
  simp only [Option.map_some,Option.some.injEq,Prod.mk.injEq] at h
  exact ⟨Lh,by simpa using hg,h.1,h.2⟩
theorem rV (hT:cV.ok P T){t:TypeId}{i:TI}(hi:kq P t=some i){fs:List (TypeId×Nat)}(hk:i.k=.struct fs){f ft off:Nat}(hf:fs[f]?=some (ft,off))
  {fi:TI}(hfi:aC T ft=some fi)(hs:fi.size≠0)(ad:Addr):(Instr.fieldAt t (.pointer (some ad)) f).run P w=.ok (.pointer (some (ad.add off))) w:=by
 obtain ⟨info,d,z,h1,h2,h3,h4,h5,h6,h7⟩:=aF hi
 obtain ⟨W8,fd,fz,e1,e2,e3,e4,e5,e6,e7⟩:=aF (hT _ _ hfi)
 rw [h4] at hk
 obtain ⟨gs,rfl,rfl⟩:=iS hk
 obtain ⟨Lh,k1,rfl,rfl⟩:=CO hf
 simp only [Instr.fieldAt,Sem.run_bind,aj h2,Result.andThen_ok,k1,Instr.sureAddr,Sem.run_pure,fieldPlace,aL e1]
 rw [Sem.run_ite,if_neg (by omega)]
 rfl
theorem Du {t:TypeId}{i:TI}(hi:kq P t=some i)(cs:List C)(off:Nat) :
  (qw i.k=true->(part t (cs.map (C.den β)).toArray off).run P w=.ok (SV.den β (.agg ((cs.drop off).take i.size))) w) /\
  (∀c,qw i.k=false->cs[off]?=some c->(part t (cs.map (C.den β)).toArray off).run P w=.ok (c.den β) w):=by
 obtain ⟨info,d,z,h1,h2,h3,h4,h5,h6,h7⟩:=aF hi
 refine ⟨fun hk=>?_,fun c hk hc=>?_⟩
 ·rw [h4] at hk
  simp only [part,Sem.run_bind,gI h2,Result.andThen_ok,hk,if_true,aL h1,Sem.run_pure,SV.den]
  congr 2
  apply Array.ext'
  rw [←h5]
  simp [List.map_take,List.map_drop,List.extract,List.take_drop]
 ·rw [h4] at hk
  simp [part,gI h2,hk,hc]
theorem HT (hT:cV.ok P T){t:TypeId}{i:TI}(hi:kq P t=some i){fs:List (TypeId×Nat)}(hk:i.k=.struct fs){f ft off:Nat}(hf:fs[f]?=some (ft,off))
  {fi:TI}(hfi:aC T ft=some fi){cs:List C} :
  (qw fi.k=true->(Instr.field t (SV.den β (.agg cs)) f).run P w=.ok (SV.den β (.agg ((cs.drop off).take fi.size))) w) /\
  (∀c,qw fi.k=false->cs[off]?=some c->(Instr.field t (SV.den β (.agg cs)) f).run P w=.ok (c.den β) w):=by
 obtain ⟨info,d,z,h1,h2,h3,h4,h5,h6,h7⟩:=aF hi
 rw [h4] at hk
 obtain ⟨gs,rfl,rfl⟩:=iS hk
 obtain ⟨Lh,k1,rfl,rfl⟩:=CO hf
 have hp:=Du (w:=w) (β:=β) (hT _ _ hfi) cs Lh.offset
 have hr:∀r,(part Lh.type (cs.map (C.den β)).toArray Lh.offset).run P w=r->(Instr.field t (SV.den β (.agg cs)) f).run P w=r:=by
  intro r hr
  simp only [Instr.field,Sem.run_bind,aj h2,Result.andThen_ok,k1,asAgg,SV.den,Sem.run_pure,hr]
 exact ⟨fun h=>hr _ (hp.1 h),fun c h hc=>hr _ (hp.2 c h hc)⟩
theorem fo (k:IntKind)(x:Int):(asIntOf (.int k x)).run P w=.ok (k,x) w:=rfl
theorem vV (hT:cV.ok P T){t:TypeId}{i:TI}(hi:kq P t=some i){x ix:SV}{sc:List Prop}{v:SV}(h:gG T i x ix=.ret sc v)(hsc:∀p∈sc,p) :
  (Instr.indexAt t (x.den β) (ix.den β)).run P w=.ok (v.den β) w/\∀s∈v.ids,s∈x.ids:=by
 obtain ⟨info,d,z,h1,h2,h3,h4,h5,h6,h7⟩:=aF hi
 unfold gG at h
 split at h
 ·rename_i k m
  split at h
  ·rename_i e hk
   rw [h4] at hk
   obtain rfl:=aS hk
   split at h
   ·rename_i ei he
    obtain ⟨gT,ed,ez,e1,e2,e3,e4,e5,e6,e7⟩:=aF (hT _ _ he)
    split at h
    ·rename_i ad len c
     simp only [Q.ret.injEq] at h;obtain ⟨rfl,rfl⟩:=h
     have c1:=hsc (ad.isSome=true) (by simp)
     have c2:=hsc (0<=m/\m<(len:Int)) (by simp)
     obtain ⟨p,rfl⟩:=Option.isSome_iff_exists.1 c1
     refine ⟨?_,fun s hs=>hs⟩
     simp [Instr.indexAt,SV.den,C.den,fo,aj h2,c2,aL e1,ah,e5]
    ·rename_i s o len c
     simp only [Q.ret.injEq] at h;obtain ⟨rfl,rfl⟩:=h
     have c2:=hsc (0<=m/\m<(len:Int)) (by simp)
     refine ⟨?_,fun s hs=>by simpa [SV.ids,C.ids] using hs⟩
     simp [Instr.indexAt,SV.den,C.den,fo,aj h2,c2,aL e1,fI,e5]
    ·rename_i s len c
     simp only [Q.ret.injEq] at h;obtain ⟨rfl,rfl⟩:=h
     have c2:=hsc (0<=m/\m<(len:Int)) (by simp)
     have c3:=hsc (len<=c) (by simp)
     refine ⟨?_,fun s hs=>by simpa [SV.ids,C.ids] using hs⟩
     have e0:mA (β s) c=some ⟨β s,0,none⟩:=by unfold mA;rw [if_neg (by omega)]
     simp [Instr.indexAt,SV.den,C.den,fo,aj h2,c2,aL e1,fI,e5,e0]
    ·cases h
   ·cases h
  ·rename_i len e hk
   rw [h4] at hk
   obtain rfl:=me hk
   split at h
   ·rename_i ei he
    obtain ⟨gT,ed,ez,e1,e2,e3,e4,e5,e6,e7⟩:=aF (hT _ _ he)
    split at h
    ·rename_i s o
     simp only [Q.ret.injEq] at h;obtain ⟨rfl,rfl⟩:=h
     have c2:=hsc (0<=m/\m<(len:Int)) (by simp)
     refine ⟨?_,fun s hs=>by simpa [SV.ids,C.ids] using hs⟩
     simp [Instr.indexAt,Instr.sureAddr,SV.den,C.den,fo,aj h2,c2,aL e1,fI,e5]
    ·cases h
   ·cases h
  ·cases h
 ·cases h
theorem Hw {k:IntKind}{x:Int}{y:Nat}(code:BoundsCode)(h:0<=x/\x<=(y:Int)):(Instr.sliceBound (.int k x) y code).run P w=.ok x.toNat w:=by
 simp [Instr.sliceBound,fo,h]
theorem g_ {len c:Nat}{lo hi mx:Option SV}{sc:List Prop}{l:Option Nat}{h m:Nat}(hq:nj len c lo hi mx=some (sc,l,h,m))(hsc:∀p∈sc,p) :
  (Instr.sliceBounds true len c (lo.map (SV.den β)) (hi.map (SV.den β)) (mx.map (SV.den β))).run P w=.ok (l.getD 0,h,m) w:=by
 unfold nj at hq
 cases ht:MD c mx with
 | none=>rw [ht] at hq;cases hq
 | some t=>
  obtain ⟨p1,m'⟩:=t
  rw [ht] at hq
  dsimp only at hq
  cases hh:Kt len m' hi mx with
  | none=>rw [hh] at hq;cases hq
  | some t=>
   obtain ⟨p2,h'⟩:=t
   rw [hh] at hq
   dsimp only at hq
   cases hl:O2 h' lo with
   | none=>rw [hl] at hq;cases hq
   | some t=>
    obtain ⟨p3,l'⟩:=t
    rw [hl] at hq
    simp only [Option.some.injEq,Prod.mk.injEq] at hq
    obtain ⟨rfl,rfl,rfl,rfl⟩:=hq
    have hm:((mx=none/\m'=c)\/∃k x,mx=some (.c (.v (.int k x)))/\m'=x.toNat/\(0<=x/\x<=(c:Int))):=by
     unfold MD at ht
     split at ht
     ·simp only [Option.some.injEq,Prod.mk.injEq] at ht;exact .inl ⟨rfl,ht.2.symm⟩
     ·rename_i k x
      simp only [Option.some.injEq,Prod.mk.injEq] at ht
      obtain ⟨rfl,rfl⟩:=ht
      exact .inr ⟨k,x,rfl,rfl,hsc _ (by simp)⟩
     ·cases ht
    have hhi:((hi=none/\mx=none/\h'=len)\/∃k x,hi=some (.c (.v (.int k x)))/\h'=x.toNat/\(0<=x/\x<=(m':Int))):=by
     unfold Kt at hh
     split at hh
     ·rename_i k x
      simp only [Option.some.injEq,Prod.mk.injEq] at hh
      obtain ⟨rfl,rfl⟩:=hh
      exact .inr ⟨k,x,rfl,rfl,hsc _ (by simp)⟩
     ·simp only [Option.some.injEq,Prod.mk.injEq] at hh;exact .inl ⟨rfl,rfl,hh.2.symm⟩
     ·cases hh
    have hlo:((lo=none/\l'=none)\/∃k x,lo=some (.c (.v (.int k x)))/\l'=some x.toNat/\(0<=x/\x<=(h':Int))):=by
     unfold O2 at hl
     split at hl
     ·simp only [Option.some.injEq,Prod.mk.injEq] at hl;exact .inl ⟨rfl,hl.2.symm⟩
     ·rename_i k x
      simp only [Option.some.injEq,Prod.mk.injEq] at hl
      obtain ⟨rfl,rfl⟩:=hl
      exact .inr ⟨k,x,rfl,rfl,hsc _ (by simp)⟩
     ·cases hl
    clear ht hh hl hsc
    rcases hm with ⟨rfl,rfl⟩|⟨k1,x1,rfl,rfl,b1⟩<;>rcases hhi with ⟨rfl,hx,rfl⟩|⟨k2,x2,rfl,rfl,b2⟩<;>rcases hlo with ⟨rfl,rfl⟩|⟨k3,x3,rfl,rfl,b3⟩ <;>
     (try cases hx) <;>
     simp only [Instr.sliceBounds,Option.map_none,Option.map_some,SV.den,C.den,Sem.run_bind,Sem.run_pure,Result.andThen_ok,Option.getD_none,Option.getD_some,Option.isSome_none,Option.isSome_some,if_true,Bool.false_eq_true,if_false] <;>
     (repeat (rw [Hw _ (by assumption)];simp only [Result.andThen_ok]))
theorem FB (hT:cV.ok P T){t:TypeId}{i:TI}(hi:kq P t=some i){e:TypeId}(hk:i.k=.slice e){ei:TI}(he:aC T e=some ei){x:SV}{lo hi' mx:Option SV}{sc:List Prop}{v:SV}
  (h:rf ei.size x lo hi' mx=.ret sc v)(hsc:∀p∈sc,p) :
  (Instr.sliceAt t (x.den β) (lo.map (SV.den β)) (hi'.map (SV.den β)) (mx.map (SV.den β))).run P w=.ok (v.den β) w/\∀s∈v.ids,s∈x.ids:=by
 obtain ⟨info,d,z,h1,h2,h3,h4,h5,h6,h7⟩:=aF hi
 obtain ⟨gT,ed,ez,e1,e2,e3,e4,e5,e6,e7⟩:=aF (hT _ _ he)
 rw [h4] at hk
 obtain rfl:=aS hk
 have add0:∀p:OA,p.map (fun x=>x.add 0)=p:=by intro p;cases p<;>simp [Addr.add]
 unfold rf at h
 split at h
 ·rename_i ad len c
  split at h
  ·rename_i SY hh m hb
   simp only [Q.ret.injEq] at h;obtain ⟨rfl,rfl⟩:=h
   have:=g_ (P:=P) (w:=w) (β:=β) hb hsc
   refine ⟨?_,fun s hs=>hs⟩
   simp only [Instr.sliceAt,Instr.slice,SV.den,C.den,Sem.run_bind,aj h2,Result.andThen_ok,this,aL e1,Sem.run_pure,Option.getD_none,Nat.zero_mul,Nat.sub_zero,add0,ite_self]
  ·rename_i SY l hh m hb
   simp only [Q.ret.injEq] at h;obtain ⟨rfl,rfl⟩:=h
   have:=g_ (P:=P) (w:=w) (β:=β) hb hsc
   refine ⟨?_,fun s hs=>hs⟩
   simp only [Instr.sliceAt,Instr.slice,SV.den,C.den,Sem.run_bind,aj h2,Result.andThen_ok,this,aL e1,Sem.run_pure,Option.getD_some,e5]
   rfl
  ·cases h
 ·rename_i s o len c
  split at h
  ·rename_i SY hh m hb
   simp only [Q.ret.injEq] at h;obtain ⟨rfl,rfl⟩:=h
   have:=g_ (P:=P) (w:=w) (β:=β) hb hsc
   refine ⟨?_,fun s hs=>by simpa [SV.ids,C.ids] using hs⟩
   simp only [Instr.sliceAt,Instr.slice,SV.den,C.den,Sem.run_bind,aj h2,Result.andThen_ok,this,aL e1,Sem.run_pure,Option.getD_none,Nat.zero_mul,Nat.sub_zero,add0,ite_self]
  ·rename_i SY l hh m hb
   simp only [Q.ret.injEq] at h;obtain ⟨rfl,rfl⟩:=h
   have:=g_ (P:=P) (w:=w) (β:=β) hb hsc
   refine ⟨?_,fun s hs=>by simpa [SV.ids,C.ids] using hs⟩
   simp only [Instr.sliceAt,Instr.slice,SV.den,C.den,Sem.run_bind,aj h2,Result.andThen_ok,this,aL e1,Sem.run_pure,Option.getD_some,e5]
   congr 2
   unfold X5
   split<;>simp [fI]
  ·cases h
 ·rename_i s len c
  split at h
  ·split at h
   ·rename_i SY hh m hb
    simp only [Q.ret.injEq] at h;obtain ⟨rfl,rfl⟩:=h
    have hm:m=c:=by
     unfold nj at hb
     simp only [MD] at hb
     split at hb
     ·cases hb
     ·split at hb
      ·cases hb
      ·simp only [Option.some.injEq,Prod.mk.injEq] at hb;exact hb.2.2.2.symm
    have:=g_ (P:=P) (w:=w) (β:=β) hb hsc
    refine ⟨?_,fun s hs=>by simpa [SV.ids,C.ids] using hs⟩
    simp only [Instr.sliceAt,Instr.slice,SV.den,C.den,Sem.run_bind,aj h2,Result.andThen_ok,this,aL e1,Sem.run_pure,Option.getD_none,Nat.zero_mul,Nat.sub_zero,add0,ite_self,hm]
   ·cases h
  ·cases h
 ·cases h
end Go.bE
namespace Go.bE
variable {P:Program} {T:cV} {n:Nat} {V0:View} {bC:Ey} {β0:Nat->Nat} {st:St} {β:Nat->Nat} {a:Act} {w:World} {V:View}
theorem dM {s:Sem Value}{v:Value}{w':World}(h:s.run P w=.ok v w'):(do pure (Next.value (←s)):Sem Next).run P w=.ok (.value v) w':=by
 simp [h]
theorem R5 {s:Sem Unit}{w':World}(h:s.run P w=.ok () w'):(do s;pure Next.skip:Sem Next).run P w=.ok .skip w':=by
 simp [h]
theorem qQ {f:Int->Int->Int}{k:IntKind}{g:Value->Value->Sem Value}(hg:∀x y k',(g (.int k x) (.int k' y))=pure (.int k (f x y))):∀(r:List SV)(x m:Int),foldI f k x r=some m ->
  ((r.map (SV.den β)).foldlM g (.int k x)).run P w=.ok (.int k m) w
 | [],x,m,h=>by simp only [foldI,Option.some.injEq] at h;subst h;rfl
 | y::r,x,m,h=>by
  unfold foldI at h
  split at h
  ·rename_i e;cases e
  ·rename_i k' b r' e
   simp only [List.cons.injEq] at e
   obtain ⟨rfl,rfl⟩:=e
   split at h
   ·simp only [List.map_cons,List.foldlM_cons,SV.den,C.den,hg,pure_bind]
    exact qQ hg r _ m h
   ·cases h
  ·cases h
theorem He:∀{cs:List C} {l:List (OA×Nat×Nat)} {k:Nat},Hd cs=some l->k<l.length->cs[k]?=some (.v (.slice (l.getD k (none,0,0)).1 (l.getD k (none,0,0)).2.1 (l.getD k (none,0,0)).2.2))
 | [],l,k,h,hk=>by cases h;cases hk
 | c::r,l,k,h,hk=>by
  unfold Hd at h
  split at h
  ·cases ‹_=[]›
  ·rename_i p n d r' e
   cases e
   split at h
   ·rename_i l' hl'
    cases h
    cases k with
    | zero=>rfl
    | succ k=>simpa using He hl' (by simpa using hk)
   ·cases h
  ·cases h
theorem rT {d:TypeDesc}(h:jT d=.str):d=.string:=by cases d<;>simp_all [jT]
theorem Bv {b:Builtin}{xs:List SV}{t:TypeId}{ts:List TypeId}{ty:TypeId}{cs:Array Bool}{i:TI}(hi:kq P t=some i){sc:List Prop}{v:SV}(h:kr b i.k xs=.ret sc v) :
  (builtin b (t::ts).toArray ty cs (xs.map (SV.den β)).toArray).run P w=.ok (.value (v.den β)) w/\v.ids=[]:=by
 obtain ⟨info,d,z,h1,h2,h3,h4,h5,h6,h7⟩:=aF hi
 unfold kr at h
 split at h
 ·cases h
 ·rename_i x r
  split at h
  ·split at h
   ·rename_i e ad m c hk
    rw [h4] at hk
    obtain rfl:=aS hk
    simp only [Q.ret.injEq] at h;obtain ⟨rfl,rfl⟩:=h
    refine ⟨?_,rfl⟩
    simp [builtin,Builtin.len_,aj h2,SV.den,C.den,goInt]
   ·rename_i e s o m c hk
    rw [h4] at hk
    obtain rfl:=aS hk
    simp only [Q.ret.injEq] at h;obtain ⟨rfl,rfl⟩:=h
    refine ⟨?_,rfl⟩
    simp [builtin,Builtin.len_,aj h2,SV.den,C.den,goInt]
   ·rename_i e s m c hk
    rw [h4] at hk
    obtain rfl:=aS hk
    simp only [Q.ret.injEq] at h;obtain ⟨rfl,rfl⟩:=h
    refine ⟨?_,rfl⟩
    simp [builtin,Builtin.len_,aj h2,SV.den,C.den,goInt]
   ·rename_i s hk
    rw [h4] at hk
    obtain rfl:=rT hk
    simp only [Q.ret.injEq] at h;obtain ⟨rfl,rfl⟩:=h
    refine ⟨?_,rfl⟩
    simp [builtin,Builtin.len_,aj h2,SV.den,C.den,goInt]
   ·cases h
  ·split at h
   ·rename_i e ad m c hk
    rw [h4] at hk
    obtain rfl:=aS hk
    simp only [Q.ret.injEq] at h;obtain ⟨rfl,rfl⟩:=h
    refine ⟨?_,rfl⟩
    simp [builtin,Builtin.cap_,aj h2,SV.den,C.den,goInt]
   ·rename_i e s o m c hk
    rw [h4] at hk
    obtain rfl:=aS hk
    simp only [Q.ret.injEq] at h;obtain ⟨rfl,rfl⟩:=h
    refine ⟨?_,rfl⟩
    simp [builtin,Builtin.cap_,aj h2,SV.den,C.den,goInt]
   ·rename_i e s m c hk
    rw [h4] at hk
    obtain rfl:=aS hk
    simp only [Q.ret.injEq] at h;obtain ⟨rfl,rfl⟩:=h
    refine ⟨?_,rfl⟩
    simp [builtin,Builtin.cap_,aj h2,SV.den,C.den,goInt]
   ·cases h
  ·split at h
   ·rename_i k a
    split at h
    ·rename_i m hm
     simp only [Q.ret.injEq] at h;obtain ⟨rfl,rfl⟩:=h
     refine ⟨?_,rfl⟩
     have:=qQ (P:=P) (w:=w) (β:=β) (f:=b_) (k:=k) (g:=Builtin.min2) (fun x y k'=>by simp [Builtin.min2,b_]) r a m hm
     simp [builtin,Builtin.min_,SV.den,C.den] at this ⊢
     rw [this]
     rfl
    ·cases h
   ·cases h
  ·split at h
   ·rename_i k a
    split at h
    ·rename_i m hm
     simp only [Q.ret.injEq] at h;obtain ⟨rfl,rfl⟩:=h
     refine ⟨?_,rfl⟩
     have:=qQ (P:=P) (w:=w) (β:=β) (f:=bP) (k:=k) (g:=Builtin.max2) (fun x y k'=>by simp [Builtin.max2,bP]) r a m hm
     simp [builtin,Builtin.max_,SV.den,C.den] at this ⊢
     rw [this]
     rfl
    ·cases h
   ·cases h
  ·cases h
theorem Jr {x:Bool×List C}{y:SV}(h:qJ x=some y):im β x=y.den β/\∀s∈y.ids,s∈x.2.flatMap C.ids:=by
 obtain ⟨b,cs⟩:=x
 cases b with
 | true=>simp only [qJ,Option.some.injEq] at h;subst h;exact ⟨rfl,fun s hs=>hs⟩
 | false=>
  match cs,h with
  | [],h=>simp [qJ] at h
  | [c],h=>simp only [qJ,Option.some.injEq] at h;subst h;exact ⟨rfl,fun s hs=>by simpa [SV.ids] using hs⟩
  | _::_::_,h=>simp [qJ] at h
theorem sw:∀(xs:List SV)(ss:List Nat),vS xs=some ss->xs.map (SV.den β)=(ss.map fun s=>Value.pointer (some ⟨β s,0,none⟩))/\∀s∈ss,∃x∈xs,s∈x.ids
 | [],ss,h=>by simp only [vS,Option.some.injEq] at h;subst h;exact ⟨rfl,fun s hs=>by cases hs⟩
 | x::r,ss,h=>by
  unfold vS at h
  split at h
  ·rename_i e;cases e
  ·rename_i s r' e
   simp only [List.cons.injEq] at e
   obtain ⟨rfl,rfl⟩:=e
   split at h
   ·rename_i l hl
    simp only [Option.some.injEq] at h;subst h
    obtain ⟨h1,h2⟩:=sw r l hl
    refine ⟨by simp [h1,SV.den,C.den],fun s' hs'=>?_⟩
    rcases List.mem_cons.1 hs' with rfl|hs'
    ·exact ⟨.c (.ptr s' 0),by simp,by simp [SV.ids,C.ids]⟩
    ·obtain ⟨y,hy,hs'⟩:=h2 s' hs';exact ⟨y,List.mem_cons_of_mem _ hy,hs'⟩
   ·cases h
  ·cases h
theorem vQ (hM:Mod n V0 bC β0 st β a w V){x:Option Operand}{v:Option SV}(h:Bo st.aY x=some v):x.map a.eval=v.map (SV.den β):=by
 cases x with
 | none=>simp only [Bo,Option.some.injEq] at h;subst h;rfl
 | some o=>
  simp only [Bo] at h
  split at h
  ·rename_i y hy;simp only [Option.some.injEq] at h;subst h;simp [hM.eval hy]
  ·cases h
theorem nf {x y:SV}(hx:Live st x)(h:∀s∈y.ids,s∈x.ids):Live st y:=fun s hs=>hx s (h s hs)
theorem lg {bx:Nat->Option aQ}{t:TypeId}{x:SV}:lf T bx t x=.fail\/∃sc s b,lf T bx t x=.sW sc s b:=by
 unfold lf;split<;>(try split)<;>(try split)<;>(try split)<;>(try split)<;>(try split)<;>first|exact .inl rfl|exact .inr ⟨_,_,_,rfl⟩
theorem Fz {bx:Nat->Option aQ}{t:TypeId}{x:SV}{sc:List Prop}{v:SV}(h:lf T bx t x=.ret sc v):False:=by
 rcases lg (T:=T) (bx:=bx) (t:=t) (x:=x) with e|⟨_,_,_,e⟩<;>rw [e] at h<;>cases h
theorem Dx {bx:Nat->Option aQ}{e:TypeId}{ei:TI}{b x:SV}{sc:List Prop}{v:SV}(h:bX bx e ei b x=.ret sc v):False:=by
 unfold bX at h
 split at h
 ·cases h
 ·split at h
  ·cases h
  ·dsimp only at h
   split at h
   ·cases h
   ·split at h
    ·cases h
    ·split at h
     ·split at h<;>cases h
     ·cases h
    ·split at h
     ·split at h<;>cases h
     ·cases h
    ·cases h
theorem Il (hT:cV.ok P T)(hM:Mod n V0 bC β0 st β a w V){o:Oper}{sc:List Prop}{v:SV}(h:aJ T st.aY st.boxes o.op=.ret sc v)(hsc:∀p∈sc,p) :
  (execOp a.eval o).run P w=.ok (.value (v.den β)) w/\Live st v:=by
 unfold aJ at h
 split at h
 case h_1 op x hop=>
  split at h
  ·rename_i y hy
   simp only [Q.ret.injEq] at h;obtain ⟨rfl,rfl⟩:=h
   refine ⟨?_,hM.live hy⟩
   simp only [execOp,hop,hM.eval hy];rfl
  ·cases h
 case h_2 op x hop=>
  split at h
  ·rename_i y hy
   simp only [Q.ret.injEq] at h;obtain ⟨rfl,rfl⟩:=h
   refine ⟨?_,hM.live hy⟩
   simp only [execOp,hop,hM.eval hy];rfl
  ·cases h
 case h_3 op c x y hop=>
  split at h
  ·rename_i hc
   split at h
   ·rename_i z hz
    simp only [Q.ret.injEq] at h;obtain ⟨rfl,rfl⟩:=h
    refine ⟨?_,hM.live hz⟩
    simp [execOp,hop,hM.eval hz,hM.eval hc,SV.den,C.den,asBool]
   ·cases h
  ·rename_i hc
   split at h
   ·rename_i z hz
    simp only [Q.ret.injEq] at h;obtain ⟨rfl,rfl⟩:=h
    refine ⟨?_,hM.live hz⟩
    simp [execOp,hop,hM.eval hz,hM.eval hc,SV.den,C.den,asBool]
   ·cases h
  ·cases h
 case h_4=>split at h<;>cases h
 case h_5=>
  split at h
  ·split at h<;>cases h
  ·cases h
 case h_6 op t parts hop=>
  split at h
  ·rename_i i ps hi hps
   have hi:=hT _ _ hi
   split at h
   ·rename_i fs hk
    split at h
    ·rename_i pl hpl
     split at h
     ·rename_i cs hcs
      simp only [Q.ret.injEq] at h;obtain ⟨rfl,rfl⟩:=h
      obtain ⟨h1,h2⟩:=Ax hT hM hi hk hps hpl hcs hsc
      refine ⟨?_,h2⟩
      simp only [execOp,hop];exact dM h1
     ·cases h
    ·cases h
   ·rename_i m e hk
    split at h
    ·rename_i ei CS
     split at h
     ·rename_i cs hcs
      simp only [Q.ret.injEq] at h;obtain ⟨rfl,rfl⟩:=h
      obtain ⟨h1,h2⟩:=Ck hT hM hi hk hps CS hcs hsc
      refine ⟨?_,h2⟩
      simp only [execOp,hop];exact dM h1
     ·cases h
    ·cases h
   ·cases h
  ·cases h
 case h_7=>
  split at h
  ·split at h
   ·split at h
    ·split at h
     ·split at h<;>cases h
     ·cases h
    ·cases h
   ·cases h
  ·cases h
 case h_8 op t x hop=>
  split at h
  ·rename_i i y hi hy
   obtain ⟨h1,h2⟩:=Ac hM (hT _ _ hi) h
   refine ⟨?_,h2⟩
   simp only [execOp,hop,hM.eval hy];exact dM h1
  ·cases h
 case h_9=>
  split at h
  ·unfold gH at h
   split at h
   ·split at h
    ·split at h
     ·split at h<;>cases h
     ·split at h<;>cases h
     ·split at h
      ·cases h
      ·split at h<;>cases h
     ·cases h
    ·cases h
   ·cases h
  ·cases h
 case h_10 op x hop=>
  split at h
  ·rename_i s o hx
   simp only [Q.ret.injEq] at h;obtain ⟨rfl,rfl⟩:=h
   refine ⟨?_,hM.live hx⟩
   simp [execOp,hop,hM.eval hx,SV.den,C.den]
  ·rename_i p hx
   simp only [Q.ret.injEq] at h;obtain ⟨rfl,rfl⟩:=h
   obtain ⟨ad,rfl⟩:=Option.isSome_iff_exists.1 (hsc (p.isSome=true) (by simp))
   refine ⟨?_,hM.live hx⟩
   simp [execOp,hop,hM.eval hx,SV.den,C.den]
  ·cases h
 case h_11 op Y_ xt x y yt hop=>
  split at h
  ·rename_i p q hp hq
   have key:(q=.v .nilIface->∃c,y=.const c)->Bu T Y_ xt p q=.ret sc v->(execOp a.eval o).run P w=.ok (.value (v.den β)) w/\Live st v:=by
    intro hc h
    obtain ⟨h1,h2⟩:=Ks (P:=P) (w:=w) (β:=β) hT (ox:=x) (oy:=y) h hsc hc
    refine ⟨?_,bO h2⟩
    simp only [execOp,hop,hM.eval hp,hM.eval hq];exact dM h1
   split at h
   ·split at h
    ·exact key (fun _=>⟨_,rfl⟩) h
    ·cases h
   ·rename_i hne;exact key (fun e=>absurd e hne) h
  ·cases h
 case h_12 op t x hop=>
  split at h
  ·rename_i hx
   simp only [Q.ret.injEq] at h;obtain ⟨rfl,rfl⟩:=h
   refine ⟨?_,bO rfl⟩
   simp [execOp,hop,hM.eval hx,SV.den,C.den,Op.unary]
  ·rename_i hx
   simp only [Q.ret.injEq] at h;obtain ⟨rfl,rfl⟩:=h
   refine ⟨?_,bO rfl⟩
   simp [execOp,hop,hM.eval hx,SV.den,C.den,Op.unary]
  ·rename_i b hx
   simp only [Q.ret.injEq] at h;obtain ⟨rfl,rfl⟩:=h
   refine ⟨?_,bO rfl⟩
   simp [execOp,hop,hM.eval hx,SV.den,C.den,Op.unary]
  ·cases h
 case h_13 op t x hop=>
  split at h
  ·rename_i k m hx
   simp only [Q.ret.injEq] at h;obtain ⟨rfl,rfl⟩:=h
   refine ⟨?_,bO rfl⟩
   simp [execOp,hop,hM.eval hx,SV.den,C.den,Op.unary,Op.intBits,bz]
  ·cases h
 case h_14 op t x hop=>
  split at h
  ·rename_i k m hx
   simp only [Q.ret.injEq] at h;obtain ⟨rfl,rfl⟩:=h
   refine ⟨?_,bO rfl⟩
   simp [execOp,hop,hM.eval hx,SV.den,C.den,Op.unary,Op.intArith]
  ·cases h
 case h_15 op src dst x hop=>
  split at h
  ·rename_i i0 i k m hi0 hi hx
   obtain ⟨Ny,d0,z0,g1,g2,-⟩:=aF (hT _ _ hi0)
   obtain ⟨info,d,z,h1,h2,h3,h4,h5,h6,h7⟩:=aF (hT _ _ hi)
   split at h
   ·rename_i k' hk
    rw [h4] at hk
    obtain rfl:=CK hk
    simp only [Q.ret.injEq] at h;obtain ⟨rfl,rfl⟩:=h
    refine ⟨?_,bO rfl⟩
    simp only [execOp,hop,hM.eval hx]
    refine dM ?_
    simp only [convert,Sem.run_bind,aj g2,aj h2,Result.andThen_ok,SV.den,C.den]
    cases d0<;>rfl
   ·cases h
  ·cases h
 case h_16 op f first caps hop=>
  split at h
  ·rename_i hf
   split at h
   ·rename_i xs hxs
    split at h
    ·rename_i ss hss
     simp only [Q.ret.injEq] at h;obtain ⟨rfl,rfl⟩:=h
     obtain ⟨h1,h2⟩:=fy hM _ _ hxs
     obtain ⟨h3,h4⟩:=sw (β:=β) _ _ hss
     refine ⟨?_,fun s hs=>?_⟩
     ·have e1:first=#[]:=by apply Array.ext';exact hf
      have e2:caps.map a.eval=(ss.map fun s=>Value.pointer (some ⟨β s,0,none⟩)).toArray:=by
       apply Array.ext'
       rw [Array.toList_map,h1,h3]
      simp [execOp,hop,Instr.makeFunc,e1,e2,SV.den,C.den]
     ·obtain ⟨x,hx,hs'⟩:=h4 s hs
      exact h2 x hx s hs'
    ·cases h
   ·cases h
  ·cases h
 case h_17=>
  split at h
  ·unfold Ad at h
   split at h
   ·split at h
    ·split at h
     ·split at h
      ·split at h<;>cases h
      ·cases h
     ·cases h
    ·cases h
   ·cases h
  ·cases h
 case h_18 op t x lo hi mx hop=>
  split at h
  ·rename_i i xv l h' m hi' hx hl hh hm
   have hi':=hT _ _ hi'
   split at h
   ·rename_i e hk
    split at h
    ·rename_i ei CS
     obtain ⟨h1,h2⟩:=FB (P:=P) (w:=w) (β:=β) hT hi' hk CS h hsc
     refine ⟨?_,nf (hM.live hx) h2⟩
     simp only [execOp,hop,hM.eval hx,vQ hM hl,vQ hM hh,vQ hM hm];exact dM h1
    ·cases h
   ·cases h
  ·cases h
 case h_19 op t x f hop=>
  split at h
  ·rename_i i xv hi hx
   have hi:=hT _ _ hi
   split at h
   ·rename_i fs hk
    split at h
    ·rename_i ft off hf
     split at h
     ·rename_i fi hfi
      split at h
      ·cases h
      ·rename_i hs
       have hs:fi.size≠0:=fun e=>hs (beq_eq.2 e)
       split at h
       ·rename_i s o'
        simp only [Q.ret.injEq] at h;obtain ⟨rfl,rfl⟩:=h
        have:=rV (w:=w) hT hi hk hf hfi hs ⟨β s,o',none⟩
        rw [fI] at this
        refine ⟨?_,nf (hM.live hx) (fun s hs=>by simpa [SV.ids,C.ids] using hs)⟩
        simp only [execOp,hop,hM.eval hx];exact dM this
       ·rename_i p
        simp only [Q.ret.injEq] at h;obtain ⟨rfl,rfl⟩:=h
        obtain ⟨ad,rfl⟩:=Option.isSome_iff_exists.1 (hsc (p.isSome=true) (by simp))
        have:=rV (w:=w) hT hi hk hf hfi hs ad
        refine ⟨?_,bO rfl⟩
        simp only [execOp,hop,hM.eval hx];exact dM this
       ·cases h
     ·cases h
    ·cases h
   ·cases h
  ·cases h
 case h_20 op t x f hop=>
  split at h
  ·rename_i i cs hi hx
   have hi:=hT _ _ hi
   split at h
   ·rename_i fs hk
    split at h
    ·rename_i ft off hf
     split at h
     ·rename_i fi hfi
      obtain ⟨g1,g2⟩:=HT (P:=P) (w:=w) (β:=β) hT hi hk hf hfi (cs:=cs)
      have hagg:qw fi.k=true->Q.ret [] (.agg ((cs.drop off).take fi.size))=.ret sc v->(execOp a.eval o).run P w=.ok (.value (v.den β)) w/\Live st v:=by
       intro hk' h
       simp only [Q.ret.injEq] at h;obtain ⟨rfl,rfl⟩:=h
       refine ⟨?_,nf (hM.live hx) fun s hs=>?_⟩
       ·simp only [execOp,hop,hM.eval hx];exact dM (g1 hk')
       ·obtain ⟨c,hc,hs⟩:=List.mem_flatMap.1 hs
        exact gV (List.mem_of_mem_drop (List.mem_of_mem_take hc)) hs
      split at h
      ·rename_i hk';exact hagg (by rw [hk'];rfl) h
      ·rename_i hk';exact hagg (by rw [hk'];rfl) h
      ·rename_i hk1 hk2
       have hk':qw fi.k=false:=by
        cases hik:fi.k<;>first|rfl|exact absurd hik (hk1 _)|exact absurd hik (hk2 _ _)
       split at h
       ·rename_i c hc
        simp only [Q.ret.injEq] at h;obtain ⟨rfl,rfl⟩:=h
        refine ⟨?_,nf (hM.live hx) fun s hs=>?_⟩
        ·simp only [execOp,hop,hM.eval hx];exact dM (g2 c hk' hc)
        ·exact gV (List.mem_of_getElem? hc) hs
       ·cases h
     ·cases h
    ·cases h
   ·cases h
  ·cases h
 case h_21 op t x ix hop=>
  split at h
  ·rename_i i xv iv hi hx hix
   obtain ⟨h1,h2⟩:=vV (P:=P) (w:=w) (β:=β) hT (hT _ _ hi) h hsc
   refine ⟨?_,nf (hM.live hx) h2⟩
   simp only [execOp,hop,hM.eval hx,hM.eval hix];exact dM h1
  ·cases h
 case h_22 op x j hop=>
  split at h
  ·rename_i xs hx
   split at h
   ·rename_i y hy
    split at h
    ·rename_i z hz
     simp only [Q.ret.injEq] at h;obtain ⟨rfl,rfl⟩:=h
     obtain ⟨h1,h2⟩:=Jr (β:=β) hz
     refine ⟨?_,nf (hM.live hx) fun s hs=>List.mem_flatMap.2 ⟨y,List.mem_of_getElem? hy,h2 s hs⟩⟩
     have:(xs.map (im β))[j]?=some (z.den β):=by rw [List.getElem?_map,hy];simp [h1]
     simp [execOp,hop,hM.eval hx,SV.den,Instr.extract,hy,h1]
    ·cases h
   ·cases h
  ·cases h
 case h_23 op c hop=>
  split at h
  ·split at h
   ·split at h
    ·split at h
     ·split at h
      ·exact (Dx h).elim
      ·cases h
     ·cases h
    ·cases h
   ·cases h
  ·split at h
   ·exact (Fz h).elim
   ·cases h
  ·rename_i b hb hb2 hc
   split at h
   ·rename_i xs t ts hxs hts
    split at h
    ·rename_i i hi
     obtain ⟨h1,h2⟩:=fy hM _ _ hxs
     have e1:c.argTypes=(t::ts).toArray:=by apply Array.ext';exact hts
     have e2:c.args.map a.eval=(xs.map (SV.den β)).toArray:=by apply Array.ext';rw [Array.toList_map];exact h1
     obtain ⟨k1,k2⟩:=Bv (P:=P) (w:=w) (β:=β) (ts:=ts) (ty:=o.type) (cs:=c.args.map fun|.const _=>true|_=>false) (hT _ _ hi) h
     refine ⟨?_,bO k2⟩
     simp only [execOp,hop,resolve,hc,pure_bind,invoke,e1,e2]
     exact k1
    ·cases h
   ·cases h
  ·cases h
 case h_24 op t x ix hop=>
  split at h
  ·rename_i i s k m hi hx hix
   split at h
   ·rename_i hk
    obtain ⟨info,d,z,h1,h2,h3,h4,h5,h6,h7⟩:=aF (hT _ _ hi)
    rw [h4] at hk
    obtain rfl:=rT hk
    simp only [Q.ret.injEq] at h;obtain ⟨rfl,rfl⟩:=h
    have hb:=hsc _ (List.mem_singleton.2 rfl)
    refine ⟨?_,bO rfl⟩
    have hlt:m.toNat<s.size:=by omega
    have e:s.data.toList.getD m.toNat 0=s[m.toNat]'hlt:=by
     have:s.data.toList[m.toNat]?=some (s[m.toNat]'hlt):=by
      rw [Array.getElem?_toList];exact Array.getElem?_eq_getElem (by simpa using hlt)
     rw [List.getD_eq_getElem?_getD,this];rfl
    simp only [execOp,hop,hM.eval hx,hM.eval hix,SV.den,C.den]
    refine dM ?_
    rw [run_index_string (w:=w) t s k m h2,dif_pos hb,e]
   ·cases h
  ·rename_i i cs k m hi hx hix
   unfold kt at h
   split at h
   ·rename_i n e hk
    split at h
    ·rename_i ei l CS hl
     split at h
     ·rename_i e2 hek
      split at h
      ·rename_i hb
       rw [Bool.and_eq_true] at hb
       simp only [Q.ret.injEq] at h;obtain ⟨rfl,rfl⟩:=h
       have hm:=hsc _ (List.mem_singleton.2 rfl)
       obtain ⟨info,d,z,h1,h2,h3,h4,h5,h6,h7⟩:=aF (hT _ _ hi)
       rw [h4] at hk
       obtain rfl:=me hk
       obtain ⟨gT,ed,ez,e1,e2,e3,e4,e5,e6,e7⟩:=aF (hT _ _ CS)
       refine ⟨?_,bO rfl⟩
       have b1:=beq_eq.1 hb.1
       have b2:=beq_eq.1 hb.2
       have hc:=He hl (show m.toNat<l.length by omega)
       have hp:=(Du (w:=w) (β:=β) (hT _ _ CS) cs m.toNat).2 _ (by rw [hek];rfl) hc
       simp only [execOp,hop,hM.eval hx,hM.eval hix]
       refine dM ?_
       have es:m.toNat*gT.size=m.toNat:=by rw [←e5,b1,Nat.mul_one]
       simp only [Instr.index,SV.den,C.den,fo,Sem.run_bind,Result.andThen_ok,aj h2,Sem.run_ite,if_pos hm,aL e1,es]
       exact hp
      ·cases h
     ·cases h
    ·cases h
   ·cases h
  ·cases h
 case h_25 op t x hop=>
  split at h
  ·rename_i i y hi hx
   obtain ⟨info,d,z,h1,h2,h3,h4,h5,h6,h7⟩:=aF (hT _ _ hi)
   unfold vU at h
   split at h
   ·cases h
   ·rename_i hk
    split at h
    ·rename_i fF ZW
     simp only [Q.ret.injEq] at h;obtain ⟨rfl,rfl⟩:=h
     refine ⟨?_,bO rfl⟩
     simp only [execOp,hop,hM.eval hx]
     refine dM ?_
     have hd:∀ms,d≠.interface ms:=fun ms e=>by rw [e] at h4;exact hk h4
     have e2:y.den β=y.den fun _=>0:=SV.bL fun s hs=>by rw [fF] at hs;cases hs
     show (Instr.makeInterface t (y.den β)).run P w=.ok (.iface t (y.den fun _=>0)) w
     rw [e2]
     generalize y.den (fun _=>0)=u
     simp only [Instr.makeInterface,Sem.run_bind,aj h2,Result.andThen_ok]
     cases d<;>first|rfl|exact absurd rfl (hd _)
    ·cases h
  ·cases h
 case h_26=>cases h
end Go.bE
namespace Go.bE
variable {P:Program} {T:cV} {n:Nat} {V0:View} {bC:Ey} {β0:Nat->Nat} {st:St} {β:Nat->Nat} {a:Act} {w:World} {V:View}
theorem Ik (hT:cV.ok P T)(hM:Mod n V0 bC β0 st β a w V){o:Oper}{sc:List Prop}{b:aQ}{x:Nat->SV}(h:aJ T st.aY st.boxes o.op=.new sc b x)(hsc:∀p∈sc,p) :
  ∃v,(execOp a.eval o).run P w=.ok (.value v) (w.alloc (b.obj β))/\(∀d,v=(x d).den (fV β d w.heap.size)/\(x d).ids=[d])/\(∀s∈b.cs.ids,∃b',st.boxes s=some b'):=by
 have hx:∀d,SV.den (fV β d w.heap.size) (.c (.ptr d 0))=.pointer (some ⟨w.heap.size,0,none⟩):=fun d=>by simp [SV.den,C.den,aP]
 have hy:∀d m c,SV.den (fV β d w.heap.size) (.c (.lR d 0 m c))=.slice (some ⟨w.heap.size,0,none⟩) m c:=fun d m c=>by simp [SV.den,C.den,aP]
 unfold aJ at h
 split at h
 case h_1=>split at h<;>cases h
 case h_2=>split at h<;>cases h
 case h_3=>split at h<;>(try split at h)<;>cases h
 case h_4 op t hop=>
  split at h
  ·rename_i i hi
   obtain ⟨info,d,z,h1,h2,h3,h4,h5,h6,h7⟩:=aF (hT _ _ hi)
   simp only [Q.new.injEq] at h;obtain ⟨rfl,rfl,rfl⟩:=h
   obtain ⟨z1,z2⟩:=ee (β:=β) h7
   refine ⟨.pointer (some ⟨w.heap.size,0,none⟩),?_,fun d=>⟨(hx d).symm,rfl⟩,fun s hs=>by rw [show Cells.ids (.lit i.zero)=[] from z2] at hs;cases hs⟩
   simp only [execOp,hop]
   refine dM ?_
   simp only [Instr.alloc,Sem.run_bind,iI h1 h3,Result.andThen_ok,newVar,newRow,run_newObj,Sem.run_pure,aQ.obj,Cells.den,z1]
   rfl
  ·cases h
 case h_5 op t y hop=>
  split at h
  ·rename_i v hv
   split at h
   ·cases h
   ·rename_i hnt
    simp only [Q.new.injEq] at h;obtain ⟨rfl,rfl,rfl⟩:=h
    obtain ⟨c1,-⟩:=SV.qH (β:=β) hnt hsc
    refine ⟨.pointer (some ⟨w.heap.size,0,none⟩),?_,fun d=>⟨(hx d).symm,rfl⟩,fun s hs=>hM.live hv s (SV.qI hnt hs)⟩
    simp only [execOp,hop,hM.eval hv]
    refine dM ?_
    simp only [Instr.box,newVar,newRow,Sem.run_bind,run_newObj,Result.andThen_ok,Sem.run_pure,c1,aQ.obj,Cells.den]
    rfl
  ·cases h
 case h_6=>
  split at h
  ·split at h
   ·split at h
    ·split at h<;>cases h
    ·cases h
   ·split at h
    ·split at h<;>cases h
    ·cases h
   ·cases h
  ·cases h
 case h_7 op t len parts hop=>
  split at h
  ·rename_i i ps hi hps
   split at h
   ·rename_i e hk
    split at h
    ·rename_i ei CS
     split at h
     ·rename_i hc
      simp only [Bool.and_eq_true,beq_eq,Bool.not_eq_eq_eq_not] at hc
      obtain ⟨⟨c1,c2⟩,c3⟩:=hc
      have c1:=Nat.le_of_ble_eq_true c1
      have c3:ei.size≠0:=fun e=>by rw [e] at c3;cases c3
      split at h
      ·rename_i cs hcs
       simp only [Q.new.injEq] at h;obtain ⟨rfl,rfl,rfl⟩:=h
       obtain ⟨h1,h2⟩:=uA hT hM (hT _ _ hi) hk hps CS c1 c2 c3 hcs hsc
       exact ⟨_,by simp only [execOp,hop];exact dM h1,fun d=>⟨(hy d _ _).symm,rfl⟩,h2⟩
      ·cases h
     ·cases h
    ·cases h
   ·cases h
  ·cases h
 case h_8=>
  split at h
  ·unfold iY at h
   split at h
   ·split at h
    ·split at h
     ·split at h<;>cases h
     ·split at h<;>cases h
     ·split at h<;>cases h
    ·cases h
    ·split at h<;>cases h
    ·cases h
   ·split at h<;>cases h
   ·cases h
  ·cases h
 case h_9=>
  split at h
  ·unfold gH at h
   split at h
   ·split at h
    ·split at h
     ·split at h<;>cases h
     ·split at h<;>cases h
     ·split at h
      ·cases h
      ·split at h<;>cases h
     ·cases h
    ·cases h
   ·cases h
  ·cases h
 case h_10=>split at h<;>cases h
 case h_11=>
  split at h
  ·have key:∀{op xt} {p q:C},Bu T op xt p q≠.new sc b x:=by
    intro op xt p q h
    have hi:∀k m m',mi op k m m'≠.new sc b x:=fun k m m' h=>by cases op<;>cases h
    have hn:∀neg k,Bw neg k p q≠.new sc b x:=fun neg k h=>by
     unfold Bw at h
     split at h<;>(try split at h)<;>(try split at h)<;>cases h
    unfold Bu at h
    split at h
    ·split at h
     ·split at h
      ·split at h
       ·exact hi _ _ _ h
       ·exact hi _ _ _ h
       ·split at h
        ·exact hi _ _ _ h
        ·cases h
      ·cases h
     ·split at h
      ·split at h<;>cases h
      ·cases h
     ·split at h
      ·exact hn _ _ h
      ·exact hn _ _ h
      ·cases h
    ·cases h
   split at h
   ·split at h
    ·exact (key h).elim
    ·cases h
   ·exact (key h).elim
  ·cases h
 case h_12=>split at h<;>cases h
 case h_13=>split at h<;>cases h
 case h_14=>split at h<;>cases h
 case h_15=>
  split at h
  ·split at h<;>cases h
  ·cases h
 case h_16=>split at h<;>(try split at h)<;>(try split at h)<;>cases h
 case h_17 op t l c hop=>
  split at h
  ·rename_i i lv cv hi hl hc
   unfold Ad at h
   split at h
   ·rename_i e hk
    split at h
    ·rename_i ei CS
     split at h
     ·rename_i k1 m1 k2 m2
      split at h
      ·rename_i zs hzs
       split at h
       ·cases h
       ·rename_i hcond
        simp only [Bool.or_eq_true,beq_eq,Bool.not_eq_eq_eq_not,not_or] at hcond
        obtain ⟨⟨g1,g2⟩,g3⟩:=hcond
        simp only [Q.new.injEq] at h;obtain ⟨rfl,rfl,rfl⟩:=h
        have g3:ei.size=zs.length:=by
         rcases hb:Nat.beq ei.size zs.length with _|_
         ·rw [hb] at g3;exact absurd rfl g3
         ·exact beq_eq.1 hb
        have hm:=xU (P:=P) (w:=w) (β:=β) hT (hT _ _ hi) hk CS (k1:=k1) (k2:=k2) (l:=m1) (c:=m2) g1 g2 hzs g3 (hsc _ (by simp)) (hsc _ (by simp)) (hsc _ (by simp))
        refine ⟨_,?_,fun d=>⟨(hy d _ _).symm,rfl⟩,fun s hs=>by simp [Cells.ids] at hs⟩
        simp only [execOp,hop,hM.eval hl,hM.eval hc]
        exact dM hm
      ·cases h
     ·cases h
    ·cases h
   ·cases h
  ·cases h
 case h_18=>
  split at h
  ·split at h
   ·split at h
    ·unfold rf at h
     split at h<;>(try split at h)<;>(try split at h)<;>cases h
    ·cases h
   ·cases h
  ·cases h
 case h_19=>
  split at h
  ·split at h
   ·split at h
    ·split at h
     ·split at h
      ·cases h
      ·split at h<;>cases h
     ·cases h
    ·cases h
   ·cases h
  ·cases h
 case h_20=>
  split at h
  ·split at h
   ·split at h
    ·split at h
     ·split at h
      ·cases h
      ·cases h
      ·split at h<;>cases h
     ·cases h
    ·cases h
   ·cases h
  ·cases h
 case h_21=>
  split at h
  ·unfold gG at h
   split at h
   ·split at h
    ·split at h
     ·split at h<;>cases h
     ·cases h
    ·split at h
     ·split at h<;>cases h
     ·cases h
    ·cases h
   ·cases h
  ·cases h
 case h_22=>split at h<;>(try split at h)<;>(try split at h)<;>cases h
 case h_23=>
  split at h
  ·split at h
   ·split at h
    ·split at h
     ·split at h
      ·unfold bX at h
       split at h
       ·cases h
       ·split at h
        ·cases h
        ·dsimp only at h
         split at h
         ·cases h
         ·split at h
          ·cases h
          ·split at h
           ·split at h<;>cases h
           ·cases h
          ·split at h
           ·split at h<;>cases h
           ·cases h
          ·cases h
      ·cases h
     ·cases h
    ·cases h
   ·cases h
  ·split at h
   ·exfalso
    rcases lg (T:=T) (bx:=st.boxes) with e|⟨_,_,_,e⟩<;>(rw [e] at h;cases h)
   ·cases h
  ·split at h
   ·split at h
    ·unfold kr at h
     split at h
     ·cases h
     ·split at h<;>(try split at h)<;>(try split at h)<;>cases h
    ·cases h
   ·cases h
  ·cases h
 case h_24=>
  split at h
  ·split at h<;>cases h
  ·unfold kt at h
   split at h
   ·split at h
    ·split at h
     ·split at h<;>cases h
     ·cases h
    ·cases h
   ·cases h
  ·cases h
 case h_25=>
  split at h
  ·unfold vU at h
   split at h
   ·cases h
   ·split at h<;>cases h
  ·cases h
 case h_26=>cases h
def df:Q->Nat
 | .fail=>0|.ret ..=>1|.new ..=>2|.sW ..=>3|.rd ..=>4|.nO ..=>5|.app ..=>6|.qY ..=>6
theorem oC {op:BinOp}{k:IntKind}{x y:Int}:df (mi op k x y)<=1:=by cases op<;>exact Nat.le_refl _
theorem DQ {neg:Bool}{k:TK}{x y:C}:df (Bw neg k x y)<=1:=by
 unfold Bw;split<;>(try split)<;>(try split)<;>first|exact Nat.le_refl _|exact Nat.zero_le _
theorem nQ {i:TI}{cs:List C}{k:Int}:df (kt T i cs k)<=1:=by
 unfold kt
 split
 ·split
  ·split
   ·split<;>first|exact Nat.le_refl _|exact Nat.zero_le _
   ·exact Nat.zero_le _
  ·exact Nat.zero_le _
 ·exact Nat.zero_le _
theorem qc {op:BinOp}{xt:TypeId}{x y:C}:df (Bu T op xt x y)<=1:=by
 unfold Bu
 split
 ·split
  ·split
   ·split
    ·exact oC
    ·exact oC
    ·split
     ·exact oC
     ·exact Nat.zero_le _
   ·exact Nat.zero_le _
  ·split
   ·split<;>first|exact Nat.le_refl _|exact Nat.zero_le _
   ·exact Nat.zero_le _
  ·split
   ·exact DQ
   ·exact DQ
   ·exact Nat.zero_le _
 ·exact Nat.zero_le _
theorem wj {sz:Nat}{x:SV}{lo hi mx:Option SV}:df (rf sz x lo hi mx)<=1:=by
 unfold rf;split<;>(try split)<;>(try split)<;>first|exact Nat.le_refl _|exact Nat.zero_le _
theorem mE {i:TI}{x ix:SV}:df (gG T i x ix)<=1:=by
 unfold gG;split<;>(try split)<;>(try split)<;>(try split)<;>first|exact Nat.le_refl _|exact Nat.zero_le _
theorem qe {b:Builtin}{k:TK}{xs:List SV}:df (kr b k xs)<=1:=by
 unfold kr;split<;>(try split)<;>(try split)<;>(try split)<;>first|exact Nat.le_refl _|exact Nat.zero_le _
theorem Ix {i:TI}{l c:SV}:df (Ad T i l c)=0\/df (Ad T i l c)=2:=by
 unfold Ad;split<;>(try split)<;>(try split)<;>(try split)<;>(try split)<;>first|exact .inl rfl|exact .inr rfl
theorem oE {bx:Nat->Option aQ}{i:TI}{a x:SV}:df (gH bx i a x)=0\/df (gH bx i a x)=3:=by
 unfold gH;split<;>(try split)<;>(try split)<;>(try split)<;>(try split)<;>first|exact .inl rfl|exact .inr rfl
theorem rk {bx:Nat->Option aQ}{i:TI}{x:SV}:df (iY bx i x)=0\/df (iY bx i x)=1\/df (iY bx i x)=4\/df (iY bx i x)=5:=by
 unfold iY;split<;>(try split)<;>(try split)<;>(try split)<;>first|exact .inl rfl|exact .inr (.inl rfl)|exact .inr (.inr (.inl rfl))|exact .inr (.inr (.inr rfl))
theorem mD {bx:Nat->Option aQ}{e:TypeId}{ei:TI}{b x:SV}:df (bX bx e ei b x)=0\/df (bX bx e ei b x)=6:=by
 unfold bX
 split
 ·exact .inl rfl
 ·split
  ·exact .inl rfl
  ·dsimp only
   split
   ·exact .inl rfl
   ·split<;>(try split)<;>(try split)<;>first|exact .inl rfl|exact .inr rfl
theorem oD {bx:Nat->Option aQ}{t:TypeId}{x:SV}:df (lf T bx t x)=0\/df (lf T bx t x)=3:=by
 rcases lg (T:=T) (bx:=bx) (t:=t) (x:=x) with e|⟨_,_,_,e⟩<;>rw [e]<;>first|exact .inl rfl|exact .inr rfl
theorem fA {ρ:Operand->Option SV}{bx:Nat->Option aQ}{op:Op} :
  (df (aJ T ρ bx op)=3->((∃t a x,op=.store t a x)\/∃c,op=.call c/\c.callee=.builtin .clear))/\(df (aJ T ρ bx op)=4\/df (aJ T ρ bx op)=5->∃t a,op=.load t a) /\
  (df (aJ T ρ bx op)=6->∃c,op=.call c/\c.callee=.builtin .append):=by
 have fY:∀{q:Q},df q<=1->(df q=3->((∃t a x,op=.store t a x)\/∃c,op=.call c/\c.callee=.builtin .clear))/\(df q=4\/df q=5->∃t a,op=.load t a)/\(df q=6->∃c,op=.call c/\c.callee=.builtin .append):=by
  intro q h;exact ⟨by omega,by omega,by omega⟩
 have XU:∀{q:Q},df q=0\/df q=2->(df q=3->((∃t a x,op=.store t a x)\/∃c,op=.call c/\c.callee=.builtin .clear))/\(df q=4\/df q=5->∃t a,op=.load t a)/\(df q=6->∃c,op=.call c/\c.callee=.builtin .append):=by
  intro q h;exact ⟨by omega,by omega,by omega⟩
 unfold aJ
 split
 case h_8=>
  split
  ·refine ⟨fun h=>?_,fun _=>⟨_,_,rfl⟩,fun h=>?_⟩
   ·rcases rk (bx:=bx) with h'|h'|h'|h'<;>(rw [h'] at h;cases h)
   ·rcases rk (bx:=bx) with h'|h'|h'|h'<;>(rw [h'] at h;cases h)
  ·exact fY (Nat.zero_le _)
 case h_9=>
  split
  ·refine ⟨fun _=>.inl ⟨_,_,_,rfl⟩,fun h=>?_,fun h=>?_⟩
   ·rcases oE (bx:=bx) with h'|h'<;>(rw [h'] at h;rcases h with h|h<;>cases h)
   ·rcases oE (bx:=bx) with h'|h'<;>(rw [h'] at h;cases h)
  ·exact fY (Nat.zero_le _)
 case h_11=>
  split
  ·split
   ·split
    ·exact fY qc
    ·exact fY (Nat.zero_le _)
   ·exact fY qc
  ·exact fY (Nat.zero_le _)
 case h_17=>
  split
  ·exact XU Ix
  ·exact fY (Nat.zero_le _)
 case h_18=>
  split
  ·split
   ·split
    ·exact fY wj
    ·exact fY (Nat.zero_le _)
   ·exact fY (Nat.zero_le _)
  ·exact fY (Nat.zero_le _)
 case h_21=>
  split
  ·exact fY mE
  ·exact fY (Nat.zero_le _)
 case h_23 c=>
  split
  ·rename_i hc
   refine ⟨fun h=>?_,fun h=>?_,fun _=>⟨c,rfl,hc⟩⟩
   ·exfalso
    split at h<;>(try split at h)<;>(try split at h)<;>(try split at h)<;>first|(rcases mD (bx:=bx) with h'|h'<;>(rw [h'] at h;cases h))|cases h
   ·exfalso
    split at h<;>(try split at h)<;>(try split at h)<;>(try split at h)<;>first|(rcases mD (bx:=bx) with h'|h'<;>(rw [h'] at h;rcases h with h|h<;>cases h))|(rcases h with h|h<;>cases h)
  ·rename_i hc
   split
   ·refine ⟨fun _=>.inr ⟨c,rfl,hc⟩,fun h=>?_,fun h=>?_⟩
    ·rcases oD (T:=T) (bx:=bx) with h'|h'<;>(rw [h'] at h;rcases h with h|h<;>cases h)
    ·rcases oD (T:=T) (bx:=bx) with h'|h'<;>(rw [h'] at h;cases h)
   ·exact fY (Nat.zero_le _)
  ·split
   ·split
    ·exact fY qe
    ·exact fY (Nat.zero_le _)
   ·exact fY (Nat.zero_le _)
  ·exact fY (Nat.zero_le _)
 case h_24=>
  split
  ·split
   ·exact fY (Nat.le_refl _)
   ·exact fY (Nat.zero_le _)
  ·exact fY nQ
  ·exact fY (Nat.zero_le _)
 case h_25=>
  split
  ·unfold vU
   split
   ·exact fY (Nat.zero_le _)
   ·split
    ·exact fY (Nat.le_refl _)
    ·exact fY (Nat.zero_le _)
  ·exact fY (Nat.zero_le _)
 all_goals
  first
  | exact fY (Nat.zero_le _)
  | ((repeat' split)<;>first|exact fY (Nat.zero_le _)|exact fY (Nat.le_refl _)|exact XU (.inr rfl))
theorem FA (hT:cV.ok P T)(hM:Mod n V0 bC β0 st β a w V){t:TypeId}{x:SV}{sc:List Prop}{s:Nat}{b:aQ}(h:lf T st.boxes t x=.sW sc s b)(hsc:∀p∈sc,p)(ty:TypeId)(cs:Array Bool) :
  ∃w',(builtin .clear #[t] ty cs #[x.den β]).run P w=.ok (.value (.tuple #[])) w'/\Mod n V0 bC β0 (st.box s b) β a w' V:=by
 unfold lf at h
 split at h
 ·rename_i i hi
  split at h
  ·rename_i e hk
   split at h
   ·rename_i ei CS
    split at h
    ·rename_i zs g o k c hz
     split at h
     ·rename_i vs et hb
      split at h
      ·cases h
      ·rename_i hc
       simp only [Q.sW.injEq] at h;obtain ⟨rfl,rfl,rfl⟩:=h
       simp only [Bool.or_eq_true,beq_eq,Bool.not_eq_true',not_or,Bool.not_eq_false,List.all_eq_true] at hc
       obtain ⟨⟨c1,c2⟩,c3⟩:=hc
       obtain ⟨info,d,z,h1,h2,h3,h4,h5,h6,h7⟩:=aF (hT _ _ hi)
       obtain ⟨gT,ed,ez,e1,e2,e3,e4,e5,e6,e7⟩:=aF (hT _ _ CS)
       rw [h4] at hk
       obtain rfl:=aS hk
       obtain ⟨z1,z2⟩:=ee (β:=β) e7
       obtain ⟨d1,-⟩:=fD (β:=β) hz
       have hzs:ez.cells.size=gT.size:=by rw [←z1,d1];simp [←e5,c2]
       have ZF:ez.cells.toList=zs:=by rw [←d1,←z1]
       have hle:o+k*ei.size<=vs.length:=hsc _ (by simp)
       have hzl:∀m,(oP m zs).length=m*ei.size:=fun m=>by
        rw [qp,c2]
        simp [List.length_flatten]
       have hz1:∀v∈oP k zs,v.oneCell'=true:=fun v hv=>by
        rw [qp] at hv
        obtain ⟨l,hl,hv⟩:=List.mem_flatten.1 hv
        rw [List.eq_of_mem_replicate hl] at hv
        exact c3 v hv
       have hrow:w.heap[β g]?=some (.cells vs.toArray et (0,0)):=hM.row hb cd
       have key:=run_storeCells_at (P:=P) (β g) o et (oP k zs) 0 vs.toArray w hrow (by simpa [hzl] using hle) hz1
       simp only [Nat.add_zero,hzl] at key
       refine ⟨w.setRow (β g) (vs.take o++oP k zs++vs.drop (o+k*ei.size)).toArray,?_,hM.sW hb cd (by intro s' hs';simp [Cells.ids] at hs') (by rw [d_ hrow];rfl) rfl rfl rfl⟩
       have hrun:(Builtin.clear_ #[t] ty #[SV.den β (.c (.lR g o k c))]).run P w=.ok (.tuple #[]) (w.setRow (β g) (vs.take o++oP k zs++vs.drop (o+k*ei.size)).toArray):=by
        cases k with
        | zero=>
         have e0:(vs.take o++oP 0 zs++vs.drop (o+0*ei.size)).toArray=vs.toArray:=by
          rw [qp];simp
         rw [e0,setRow_self w (β g) vs.toArray et (0,0) hrow]
         simp [Builtin.clear_,aj h2,SV.den,C.den]
        | succ k=>
         have ek:(Builtin.zeroCells ez.cells (k+1)).toList=oP (k+1) zs:=by
          unfold Builtin.zeroCells
          rw [qB (z:=ez) (m:=k+1) _ rfl,qp,ZF]
         have Z9:(zeroValue e).run P w=.ok ez w:=iI e1 e3 w
         simp only [List.append_assoc] at key ⊢
         simp [Builtin.clear_,aj h2,SV.den,C.den,Z9,ek,key]
       simp only [builtin]
       exact dM hrun
     ·cases h
    ·cases h
   ·cases h
  ·cases h
 ·cases h
theorem Im (hT:cV.ok P T)(hM:Mod n V0 bC β0 st β a w V){o:Oper}{sc:List Prop}{s:Nat}{b:aQ}(h:aJ T st.aY st.boxes o.op=.sW sc s b)(hsc:∀p∈sc,p) :
  ∃nx w',(execOp a.eval o).run P w=.ok nx w'/\(nx=.skip\/∃v,nx=.value v)/\Mod n V0 bC β0 (st.box s b) β a w' V:=by
 rcases (fA (T:=T) (ρ:=st.aY) (bx:=st.boxes) (op:=o.op)).1 (by rw [h];rfl) with ⟨t,y,x,hop⟩|⟨c,hop,pD⟩
 ·rw [hop] at h
  simp only [aJ] at h
  split at h
  ·rename_i i av xv hi IP hxv
   obtain ⟨w',h1,h2⟩:=FC hM (hT _ _ hi) (hM.live hxv) h hsc
   refine ⟨.skip,w',?_,.inl rfl,h2⟩
   simp only [execOp,hop,hM.eval IP,hM.eval hxv]
   exact R5 h1
  ·cases h
 ·obtain ⟨Gw,args,ts⟩:=c
  dsimp only at pD
  subst pD
  rw [hop] at h
  simp only [aJ] at h
  split at h
  ·rename_i x t hxs hts
   obtain ⟨h1,-⟩:=fy hM _ _ hxs
   have e1:ts=#[t]:=by apply Array.ext';exact hts
   have e2:args.map a.eval=#[x.den β]:=by apply Array.ext';rw [Array.toList_map];exact h1
   obtain ⟨w',k1,k2⟩:=FA hT hM h hsc o.type (args.map fun|.const _=>true|_=>false)
   refine ⟨.value (.tuple #[]),w',?_,.inr ⟨_,rfl⟩,k2⟩
   simp only [execOp,hop,resolve,pure_bind,invoke,e1,e2]
   exact k1
  ·cases h
theorem Kx (hT:cV.ok P T)(hM:Mod n V0 bC β0 st β a w V){o:Oper}{p:OA}{sh:uh}(h:aJ T st.aY st.boxes o.op=.rd p sh){x:SV}{k:Prop}
  (hx:x.ids=[])(hs:(∃c,x=.c c/\∃s',sh=.one s')\/∃cs l,x=.agg cs/\sh=.agg l/\cs.length=l.length)(hr:V.Ln p x k) :
  (execOp a.eval o).run P w=.ok (.value (x.den β)) w/\k:=by
 obtain ⟨t,y,hop⟩:=(fA (T:=T) (ρ:=st.aY) (bx:=st.boxes) (op:=o.op)).2.1 (by rw [h];exact .inl rfl)
 rw [hop] at h
 simp only [aJ] at h
 split at h
 ·rename_i i av hi IP
  unfold iY at h
  split at h
  ·split at h
   ·split at h
    ·split at h<;>cases h
    ·split at h<;>cases h
    ·split at h<;>cases h
   ·cases h
   ·split at h<;>cases h
   ·cases h
  ·split at h
   ·rename_i hz
    simp only [Q.rd.injEq] at h
    obtain ⟨rfl,rfl⟩:=h
    obtain ⟨h1,h2⟩:=O6 hM (hT _ _ hi) (beq_eq.1 hz) hx hs hr
    refine ⟨?_,h2⟩
    simp only [execOp,hop,hM.eval IP]
    exact dM h1
   ·cases h
  ·cases h
 ·cases h
theorem Dy (hT:cV.ok P T)(hM:Mod n V0 bC β0 st β a w V){o:Oper}{vs:List Value}{of size:Nat}{sh:uh}(h:aJ T st.aY st.boxes o.op=.nO vs of size sh){x:SV}
  (hx:x.ids=[])(hs:(∃c,x=.c c/\∃s',sh=.one s')\/∃cs l,x=.agg cs/\sh=.agg l/\cs.length=l.length)(hr:MN vs of size x) :
  (execOp a.eval o).run P w=.ok (.value (x.den β)) w:=by
 obtain ⟨t,y,hop⟩:=(fA (T:=T) (ρ:=st.aY) (bx:=st.boxes) (op:=o.op)).2.1 (by rw [h];exact .inr rfl)
 rw [hop] at h
 simp only [aJ] at h
 split at h
 ·rename_i i av hi IP
  unfold iY at h
  split at h
  ·split at h
   ·split at h
    ·split at h<;>cases h
    ·split at h<;>cases h
    ·split at h<;>cases h
   ·rename_i hb
    simp only [Q.nO.injEq] at h
    obtain ⟨rfl,rfl,rfl,rfl⟩:=h
    have h1:=Ae hM (hT _ _ hi) (.inl hb) hx hs hr
    simp only [execOp,hop,hM.eval IP]
    exact dM h1
   ·rename_i hb
    split at h
    ·cases h
    ·rename_i hz
     simp only [Q.nO.injEq] at h
     obtain ⟨rfl,rfl,rfl,rfl⟩:=h
     have h1:=Ae hM (hT _ _ hi) (.inr ⟨hb,fun e=>hz (by rw [e];rfl)⟩) hx hs hr
     simp only [execOp,hop,hM.eval IP]
     exact dM h1
   ·cases h
  ·split at h<;>cases h
  ·cases h
 ·cases h
end Go.bE
