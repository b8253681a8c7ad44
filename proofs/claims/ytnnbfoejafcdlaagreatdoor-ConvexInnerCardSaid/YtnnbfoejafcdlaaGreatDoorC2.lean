import Derived.Test.YtnnbfoejafcdlaaGreatDoorC1
set_option linter.unusedVariables false
open Go.IntKind (i64 u64 u32)
namespace Go.bw
variable {P:Program} {T:cG} {n:Nat} {V0:View} {bo:BP} {β0:Nat->Nat} {st:St} {β:Nat->Nat} {a:Act} {w:World} {V:View}
theorem fc (b o k:Nat):(⟨b,o,none⟩:Addr).add k=⟨b,o+k,none⟩:=by
 unfold Addr.add;split
 ·rename_i h;subst h;rfl
 ·rfl
theorem cell_of_row {g o:Nat}{vs:List Value}{ty:TypeId}(h:w.heap[g]?=some (.cells vs.toArray ty (0,0))):w.cell? ⟨g,o,none⟩=vs[o]?:=by
 simp [World.cell?,h]
theorem Av {g o m:Nat}{vs:List Value}{ty t:TypeId}{info:TypeInfo}{d:TypeDesc}(h:w.heap[g]?=some (.cells vs.toArray ty (0,0)))
  (h1:P.info? t=some info)(h2:P.underlying t=some d)(hm:info.size=m)(hk:oK (jk d)=true)(hl:o+m<=vs.length) :
  (loadVar t ⟨g,o,none⟩).run P w=.ok (.agg ((vs.drop o).take m).toArray) w:=by
 subst hm
 have key:=run_loadCells_list (P:=P) (w:=w) ⟨g,o,none⟩ ((vs.drop o).take info.size) (by
  intro j v hj
  rw [fc,cell_of_row h]
  rw [List.getElem?_take] at hj
  split at hj
  ·rw [List.getElem?_drop] at hj;exact hj
  ·cases hj)
 rw [List.length_take,List.length_drop,Nat.min_eq_left (by omega)] at key
 simp only [loadVar,Sem.run_bind,fL h2,Result.andThen_ok,hk,if_true,aK h1,key,Sem.run_pure]
theorem w_ {g o:Nat}{vs:List Value}{ty t:TypeId}{d:TypeDesc}{v:Value}(h:w.heap[g]?=some (.cells vs.toArray ty (0,0)))
  (h2:P.underlying t=some d)(hk:oK (jk d)=false)(hv:vs[o]?=some v) :
  (loadVar t ⟨g,o,none⟩).run P w=.ok v w:=by
 simp only [loadVar,Sem.run_bind,fL h2,Result.andThen_ok,hk,Bool.false_eq_true,if_false,run_load,cell_of_row h,hv]
theorem Mod.row (hM:Mod n V0 bo β0 st β a w V){s:Nat}{b:aO}(hb:st.boxes s=some b)(lb:b.live):w.heap[β s]?=some (.cells (b.cs.den β).toArray b.ty (0,0)):=hM.boxes s b hb lb
theorem f_ {cs:List C}{c:C}{s:Nat}(hc:c∈cs)(hs:s∈c.ids):s∈cs.flatMap C.ids:=List.mem_flatMap.2 ⟨c,hc,hs⟩
theorem xh (hM:Mod n V0 bo β0 st β a w V){t:TypeId}{i:TI}(hi:jE P t=some i){x:SV}{sc:List Prop}{v:SV}(h:iu st.boxes i x=.ret sc v) :
  (Instr.loadAt t (x.den β)).run P w=.ok (v.den β) w/\Live st v:=by
 obtain ⟨info,d,z,h1,h2,h3,h4,h5,-⟩:=aB hi
 unfold iu at h
 split at h
 ·rename_i b o
  split at h
  ·rename_i cs ty hb
   have hrow:=hM.row hb cz
   have hlive:=hM.vQ b _ hb
   simp only [Cells.den] at hrow
   have hagg:oK i.k=true->(if Nat.ble (o+i.size) cs.length then Q.ret [] (.agg ((cs.drop o).take i.size)) else .fail)=.ret sc v ->
     (Instr.loadAt t (SV.den β (.c (.ptr b o)))).run P w=.ok (v.den β) w/\Live st v:=by
    intro hk h
    split at h
    ·rename_i hl
     have hl:=Nat.le_of_ble_eq_true hl
     simp only [Q.ret.injEq] at h;obtain ⟨-,rfl⟩:=h
     refine ⟨?_,?_⟩
     ·have:=Av (t:=t) (o:=o) (m:=i.size) hrow h1 h2 h5.symm (h4▸hk) (by simpa using hl)
      simp only [Instr.loadAt,Instr.sureAddr,SV.den,C.den,Sem.run_bind,Sem.run_pure,Result.andThen_ok,this]
      rw [List.map_take,List.map_drop]
     ·intro s hs
      obtain ⟨c,hc,hs⟩:=List.mem_flatMap.1 hs
      exact hlive s (f_ (List.mem_of_mem_drop (List.mem_of_mem_take hc)) hs)
    ·cases h
   split at h
   ·rename_i hk;exact hagg (by rw [hk];rfl) h
   ·rename_i hk;exact hagg (by rw [hk];rfl) h
   ·rename_i hk1 hk2
    have hk:oK i.k=false:=by
     cases hik:i.k<;>first|rfl|exact absurd hik (hk1 _)|exact absurd hik (hk2 _ _)
    split at h
    ·rename_i c hc
     simp only [Q.ret.injEq] at h;obtain ⟨-,rfl⟩:=h
     refine ⟨?_,?_⟩
     ·have:=w_ (t:=t) (o:=o) (v:=c.den β) hrow h2 (h4▸hk) (by simp [hc])
      simp only [Instr.loadAt,Instr.sureAddr,SV.den,C.den,Sem.run_bind,Sem.run_pure,Result.andThen_ok,this]
     ·intro s hs
      exact hlive s (f_ (List.mem_of_getElem? hc) hs)
    ·cases h
  ·cases h
  ·split at h<;>cases h
  ·cases h
 ·split at h<;>cases h
 ·cases h
theorem uC.dN:∀(s:uC) {K:C->Prop},s.ex K->∃c,c.ids=[]/\K c
 | .int _,_,⟨_,h⟩=>⟨_,rfl,h⟩
 | .bool,_,⟨_,h⟩=>⟨_,rfl,h⟩
 | .slice,_,⟨_,_,_,h⟩=>⟨_,rfl,h⟩
 | .ptr,_,⟨_,h⟩=>⟨_,rfl,h⟩
 | .str,_,⟨_,h⟩=>⟨_,rfl,h⟩
 | .any,_,⟨_,h⟩=>⟨_,rfl,h⟩
theorem nI:∀(l:List uC) {K:List C->Prop},Ko l K->∃cs,cs.flatMap C.ids=[]/\cs.length=l.length/\K cs
 | [],_,h=>⟨[],rfl,rfl,h⟩
 | s::r,K,h=>by
  obtain ⟨c,hc,h'⟩:=uC.dN s h
  obtain ⟨cs,h1,h2,h3⟩:=nI r h'
  exact ⟨c::cs,by simp [hc,h1],by simp [h2],h3⟩
theorem rE.dN:∀(s:rE) {K:SV->Prop},s.ex K->∃x,x.ids=[]/\((∃c,x=.c c/\∃s',s=.one s')\/∃cs l,x=.agg cs/\s=.agg l/\cs.length=l.length)/\K x
 | .one s,K,h=>by obtain ⟨c,hc,h'⟩:=uC.dN s h;exact ⟨.c c,hc,.inl ⟨c,rfl,s,rfl⟩,h'⟩
 | .agg l,K,h=>by obtain ⟨cs,h1,h2,h'⟩:=nI l h;exact ⟨.agg cs,h1,.inr ⟨cs,l,rfl,rfl,h2⟩,h'⟩
theorem sK:∀(l:List rE) {K:List (Bool×List C)->Prop},Ln l K->∃xs,(xs.flatMap fun x=>x.2.flatMap C.ids)=[]/\K xs
 | [],_,h=>⟨[],rfl,h⟩
 | .one s::r,K,h=>by
  obtain ⟨c,hc,h'⟩:=uC.dN s h
  obtain ⟨xs,h1,h2⟩:=sK r h'
  exact ⟨_,by simp [hc,h1],h2⟩
 | .agg l::r,K,h=>by
  obtain ⟨cs,hc,-,h'⟩:=nI l h
  obtain ⟨xs,h1,h2⟩:=sK r h'
  exact ⟨(true,cs)::xs,by simp only [List.flatMap_cons,hc,h1,List.append_nil],h2⟩
theorem Sh.dN:∀(s:Sh) {K:SV->Prop},s.ex K->∃x,x.ids=[]/\K x
 | .val s,K,h=>by obtain ⟨x,hx,-,h'⟩:=rE.dN s h;exact ⟨x,hx,h'⟩
 | .nr l,K,h=>by obtain ⟨xs,hx,h'⟩:=sK l h;exact ⟨.nr xs,hx,h'⟩
 | .none,K,h=>⟨.nr [],rfl,h⟩
theorem iR {x:SV}(h:x.ids=[])(β β':Nat->Nat):x.den β=x.den β':=SV.bC fun s hs=>by rw [h] at hs;cases hs
theorem bG {x:SV}(h:x.ids=[]):Live st x:=fun s hs=>by rw [h] at hs;cases hs
theorem AU:∀(cs:List C) (p:Addr) (i:Nat) {k:Prop},V.I8 p i cs k->(∀j c,cs[j]?=some c->V.at (p.add (i+j)) (c.den fun _=>0))/\k
 | [],_,_,_,h=>⟨fun j c hj=>by simp at hj,h⟩
 | c::r,p,i,k,⟨h1,h2⟩=>by
  obtain ⟨h3,h4⟩:=AU r p (i+1) h2
  refine ⟨fun j d hj=>?_,h4⟩
  cases j with
  | zero=>simp at hj;subst hj;exact h1
  | succ j=>simp at hj;have:=h3 j d hj;rwa [show i+1+j=i+(j+1) from by omega] at this
theorem Mod.OY (hM:Mod n V0 bo β0 st β a w V){p:Addr}{v:Value}(h:V.at p v):w.cell? p=some v:=by
 obtain ⟨hH,hc⟩:=h
 unfold World.cell? at hc ⊢
 split at hc
 ·rename_i c e f hb
  rw [(hM.ns p.block _ ⟨hH,hb⟩).1]
  exact hc
 ·cases hc
theorem D2 {i:TI}{l:List uC}(h:jI i=.agg l):oK i.k=true/\l.length=i.zero.length:=by
 unfold jI at h
 split at h
 ·rename_i hk;simp only [rE.agg.injEq] at h;subst h;exact ⟨by rw [hk];rfl,by simp⟩
 ·rename_i hk;simp only [rE.agg.injEq] at h;subst h;exact ⟨by rw [hk];rfl,by simp⟩
 ·split at h<;>cases h
theorem D3 {i:TI}{s:uC}(h:jI i=.one s):oK i.k=false:=by
 unfold jI at h
 split at h
 ·cases h
 ·cases h
 ·rename_i h1 h2
  cases hik:i.k<;>first|rfl|exact absurd hik (h1 _)|exact absurd hik (h2 _ _)
theorem K4 (hM:Mod n V0 bo β0 st β a w V){t:TypeId}{i:TI}(hi:jE P t=some i)(hz:i.zero.length=i.size){p:OA}{x:SV}{k:Prop}
  (hx:x.ids=[])(hs:(∃c,x=.c c/\∃s',jI i=.one s')\/∃cs l,x=.agg cs/\jI i=.agg l/\cs.length=l.length)(h:V.H8 p x k) :
  (Instr.loadAt t (.pointer p)).run P w=.ok (x.den β) w/\k:=by
 obtain ⟨info,d,z,h1,h2,h3,h4,h5,-⟩:=aB hi
 rcases hs with ⟨c,rfl,s,hs⟩|⟨cs,l,rfl,hs,hl⟩
 ·obtain ⟨⟨ad,rfl,hat⟩,hk⟩:=h
  have hkk:=D3 hs
  rw [h4] at hkk
  refine ⟨?_,hk⟩
  simp only [Instr.loadAt,Instr.sureAddr,Sem.run_bind,Sem.run_pure,Result.andThen_ok,loadVar,fL h2,hkk,Bool.false_eq_true,if_false,run_load,hM.OY hat]
  rw [iR hx β fun _=>0]
  rfl
 ·obtain ⟨ad,rfl,hr⟩:=h
  obtain ⟨hkk,hl2⟩:=D2 hs
  rw [h4] at hkk
  obtain ⟨h6,h7⟩:=AU cs ad 0 hr
  refine ⟨?_,h7⟩
  have key:=run_loadCells_list (P:=P) (w:=w) ad (cs.map (C.den fun _=>0)) (by
   intro j v hj
   rw [List.getElem?_map] at hj
   cases hc:cs[j]? with
   | none=>rw [hc] at hj;cases hj
   | some c=>
    rw [hc] at hj
    simp only [Option.map_some,Option.some.injEq] at hj
    subst hj
    have:=hM.OY (h6 j c hc)
    simpa using this)
  rw [List.length_map,hl,hl2,hz,h5] at key
  simp only [Instr.loadAt,Instr.sureAddr,Sem.run_bind,Sem.run_pure,Result.andThen_ok,loadVar,fL h2,hkk,if_true,aK h1,key]
  rw [iR hx β fun _=>0]
  rfl
theorem xj (hM:Mod n V0 bo β0 st β a w V){t:TypeId}{i:TI}(hi:jE P t=some i){b o:Nat}{vs:List Value}{ty:TypeId}(hb:st.boxes b=some ⟨.row vs,ty⟩\/(st.boxes b=some ⟨.aU vs,ty⟩/\i.size≠0)){x:SV}
  (hx:x.ids=[])(hs:(∃c,x=.c c/\∃s',jI i=.one s')\/∃cs l,x=.agg cs/\jI i=.agg l/\cs.length=l.length)(h:Jb vs o i.size x) :
  (Instr.loadAt t (SV.den β (.c (.ptr b o)))).run P w=.ok (x.den β) w:=by
 obtain ⟨info,d,z,h1,h2,h3,h4,h5,-⟩:=aB hi
 have hrow:w.heap[β b]?=some (.cells vs.toArray ty (0,0)):=by
  rcases hb with hb|⟨hb,hz⟩
  ·exact hM.row hb bS
  ·refine hM.row hb (eT fun e=>?_)
   subst e
   rcases hs with ⟨c,rfl,s,hs⟩|⟨cs,l,rfl,hs,hl⟩
   ·simp [Jb] at h
   ·have:=h.1
    simp at this
    omega
 rcases hs with ⟨c,rfl,s,hs⟩|⟨cs,l,rfl,hs,hl⟩
 ·have hkk:=D3 hs
  rw [h4] at hkk
  have:=w_ (t:=t) (o:=o) hrow h2 hkk h
  rw [show SV.den β (.c c)=C.den (fun _=>0) c from iR (x:=.c c) hx β _]
  show (Instr.loadAt t (.pointer (some ⟨β b,o,none⟩))).run P w=_
  simp only [Instr.loadAt,Instr.sureAddr,Sem.run_bind,Sem.run_pure,Result.andThen_ok,this]
 ·obtain ⟨hkk,hl2⟩:=D2 hs
  rw [h4] at hkk
  obtain ⟨h6,h7⟩:=h
  have:=Av (t:=t) (o:=o) (m:=i.size) hrow h1 h2 h5.symm hkk h6
  simp only [Instr.loadAt,Instr.sureAddr,C.den,SV.den,Sem.run_bind,Sem.run_pure,Result.andThen_ok,this,h7]
  have:=iR (x:=.agg cs) hx β fun _=>0
  simp only [SV.den,Value.agg.injEq] at this
  rw [this]
theorem KW {c:C}(h:∀p∈eh c,p):(c.den β).oneCell'=true:=by
 cases c with
 | v x=>cases x<;>first|rfl|exact (h False (by simp [eh])).elim
 | w x=>exact h (x.oneCell'=true) (by simp [eh])
 | _=>rfl
theorem Ez {v:Value}(h:v.oneCell'=true):v.cells=#[v]:=by cases v<;>first|rfl|simp [Value.oneCell'] at h
theorem SV.oU {x:SV}(ht:x.sY=false)(h:∀p∈x.eh,p):(x.den β).cells=(x.cells.map (C.den β)).toArray/\∀v∈x.cells.map (C.den β),v.oneCell'=true:=by
 have h1:∀c∈x.cells,(c.den β).oneCell'=true:=fun c hc=>KW fun p hp=>h p (List.mem_flatMap.2 ⟨c,hc,hp⟩)
 refine ⟨?_,fun v hv=>by obtain ⟨c,hc,rfl⟩:=List.mem_map.1 hv;exact h1 c hc⟩
 cases x with
 | c c=>exact Ez (h1 c (by simp [SV.cells]))
 | agg cs=>rfl
 | nr xs=>cases ht
theorem dH {g:Nat}{old cs:Array Value}{ty:TypeId}(h:w.heap[g]?=some (.cells old ty (0,0))):(w.setRow g cs).heap=w.heap.setIfInBounds g (.cells cs ty (0,0)):=by
 apply Array.ext_getElem?
 intro i
 by_cases e:i=g
 ·subst e
  rw [setRow_heap w i old cs ty (0,0) h,Array.getElem?_setIfInBounds,if_pos rfl,if_pos (aA h)]
 ·rw [setRow_other w g i cs e,Array.getElem?_setIfInBounds,if_neg (Ne.symm e)]
theorem eY {cs:List C}{vs:List Value}(h:jK cs=some vs):cs.map (C.den β)=vs/\cs.flatMap C.ids=[]:=by
 induction cs generalizing vs with
 | nil=>simp [jK] at h;subst h;exact ⟨rfl,rfl⟩
 | cons c r ih=>
  simp only [jK] at h
  split at h
  ·rename_i v ws hv hws
   simp only [Option.some.injEq] at h
   subst h
   obtain ⟨h1,h2⟩:=ih hws
   have:c.den β=v/\c.ids=[]:=by cases c<;>simp_all [C.val?,C.den,C.ids]
   exact ⟨by simp [h1,this.1],by simp [h2,this.2]⟩
  ·cases h
theorem nY {cs xs:List C}{o:Nat}:(setCells cs o xs).map (C.den β)=(cs.map (C.den β)).take o++xs.map (C.den β)++(cs.map (C.den β)).drop (o+xs.length):=by
 simp [setCells,List.map_take,List.map_drop]
theorem nX {cs xs:List C}{o s:Nat}(h:s∈(setCells cs o xs).flatMap C.ids):s∈cs.flatMap C.ids\/s∈xs.flatMap C.ids:=by
 obtain ⟨c,hc,hs⟩:=List.mem_flatMap.1 h
 simp only [setCells,List.mem_append] at hc
 rcases hc with (hc|hc)|hc
 ·exact .inl (f_ (List.mem_of_mem_take hc) hs)
 ·exact .inr (f_ hc hs)
 ·exact .inl (f_ (List.mem_of_mem_drop hc) hs)
theorem kk {vs xs:List Value}{o:Nat}(h:o+xs.length<=vs.length):cY vs o xs=vs.take o++xs++vs.drop (o+xs.length):=by
 unfold cY
 split
 ·rename_i x
  have:o<vs.length:=by simp at h;omega
  rw [List.set_eq_take_append_cons_drop,if_pos this]
  simp
 ·rfl
theorem SV.oV {x:SV}{s:Nat}(ht:x.sY=false):s∈x.cells.flatMap C.ids->s∈x.ids:=by
 cases x with
 | c c=>simp [SV.cells,SV.ids]
 | agg cs=>exact id
 | nr xs=>cases ht
theorem CL (hM:Mod n V0 bo β0 st β a w V){t:TypeId}{i:TI}(hi:jE P t=some i){av xv:SV}(hx:Live st xv){sc:List Prop}{s:Nat}{b:aO}
  (h:fK st.boxes i av xv=.qC sc s b)(hsc:∀p∈sc,p) :
  ∃w',(Instr.storeAt t (av.den β) (xv.den β)).run P w=.ok () w'/\Mod n V0 bo β0 (st.box s b) β a w' V:=by
 obtain ⟨info,d,z,h1,h2,h3,h4,h5,-⟩:=aB hi
 unfold fK at h
 split at h
 ·rename_i g o
  split at h
  ·rename_i hcond
   simp only [Bool.and_eq_true,beq_eq,Bool.not_eq_eq_eq_not] at hcond
   obtain ⟨hlen,hnt⟩:=hcond
   have core:∀(old:List Value)(ty:TypeId)(nb:aO),w.heap[β g]?=some (.cells old.toArray ty (0,0))->(∀p∈xv.eh,p)->o+xv.cells.length<=old.length->nb.ty=ty ->
     nb.cs.den β=old.take o++xv.cells.map (C.den β)++old.drop (o+xv.cells.length) ->
     ∃w',(Instr.storeAt t (SV.den β (.c (.ptr g o))) (xv.den β)).run P w=.ok () w'/\w'.heap=w.heap.setIfInBounds (β g) (nb.obj β)/\w'.os=w.os/\w'.tape=w.tape/\w'.output=w.output:=by
    intro old ty nb hrow hone hle hty hden
    obtain ⟨hc1,hc2⟩:=SV.oU (β:=β) hnt hone
    have key:=run_storeCells_at (P:=P) (β g) o ty (xv.cells.map (C.den β)) 0 old.toArray w hrow (by simpa using hle) hc2
    refine ⟨w.setRow (β g) (old.take o++xv.cells.map (C.den β)++old.drop (o+xv.cells.length)).toArray,?_,?_⟩
    ·generalize xv.den β=v at hc1
     show (Instr.storeAt t (.pointer (some ⟨β g,o,none⟩)) v).run P w=_
     simp only [Instr.storeAt,Instr.sureAddr,Sem.run_bind,Sem.run_pure,Result.andThen_ok,storeVar,aK h1,hc1]
     simp [hlen,h5]
     simpa [hlen,h5] using key
    ·exact ⟨by rw [dH hrow,aO.obj,hden,hty],rfl,rfl,rfl⟩
   split at h
   ·rename_i cs ty hb
    split at h
    ·rename_i hl
     have hl:=Nat.le_of_ble_eq_true hl
     simp only [Q.qC.injEq] at h;obtain ⟨rfl,rfl,rfl⟩:=h
     have hrow:=hM.row hb cz
     obtain ⟨w',hr,k1,k2,k3,k4⟩:=core _ _ ⟨.lit (setCells cs o xv.cells),ty⟩ hrow hsc (by simpa [Cells.den,hlen] using hl) rfl (by simp only [Cells.den];exact nY)
     refine ⟨w',hr,hM.qC hb cz ?_ k1 k2 k3 k4⟩
     intro s' hs'
     rcases nX hs' with h'|h'
     ·exact hM.vQ _ _ hb s' h'
     ·exact hx s' (SV.oV hnt h')
    ·cases h
   ·rename_i vs ty hb
    split at h
    ·rename_i xs hxs
     simp only [Q.qC.injEq] at h;obtain ⟨rfl,rfl,rfl⟩:=h
     have hrow:=hM.row hb bS
     obtain ⟨hd1,hd2⟩:=eY (β:=β) hxs
     have hle:o+i.size<=vs.length:=hsc _ (by simp)
     have hxl:xs.length=i.size:=by rw [←hd1,List.length_map,hlen]
     obtain ⟨w',hr,k1,k2,k3,k4⟩:=core _ _ ⟨.row (cY vs o xs),ty⟩ hrow (fun p hp=>hsc p (List.mem_append_left _ hp)) (by simpa [Cells.den,hlen] using hle) rfl (by
      simp only [Cells.den];rw [kk (by omega),hd1,hlen,hxl])
     exact ⟨w',hr,hM.qC hb bS (by intro s' hs';simp [Cells.ids] at hs') k1 k2 k3 k4⟩
    ·cases h
   ·rename_i vs ty hb
    split at h
    ·cases h
    rename_i hz
    split at h
    ·rename_i xs hxs
     simp only [Q.qC.injEq] at h;obtain ⟨rfl,rfl,rfl⟩:=h
     obtain ⟨hd1,hd2⟩:=eY (β:=β) hxs
     have hle:o+i.size<=vs.length:=hsc _ (by simp)
     have hlv:aO.live ⟨.aU vs,ty⟩:=eT fun e=>by
      subst e
      simp at hle
      exact hz (by rw [hle.2];rfl)
     have hrow:=hM.row hb hlv
     have hxl:xs.length=i.size:=by rw [←hd1,List.length_map,hlen]
     obtain ⟨w',hr,k1,k2,k3,k4⟩:=core _ _ ⟨.aU (cY vs o xs),ty⟩ hrow (fun p hp=>hsc p (List.mem_append_left _ hp)) (by simpa [Cells.den,hlen] using hle) rfl (by
      simp only [Cells.den];rw [kk (by omega),hd1,hlen,hxl])
     exact ⟨w',hr,hM.qC hb hlv (by intro s' hs';simp [Cells.ids] at hs') k1 k2 k3 k4⟩
    ·cases h
   ·cases h
  ·cases h
 ·cases h
end Go.bw
namespace Go.bw
variable {P:Program} {T:cG} {n:Nat} {V0:View} {bo:BP} {β0:Nat->Nat} {st:St} {β:Nat->Nat} {a:Act} {w:World} {V:View}
theorem EI (xs:List Value):∀(cs:Array Value)(off:Nat),off+xs.length<=cs.size ->
  (xs.toArray.zipIdx.foldl (fun cs (p:Value×Nat)=>cs.setIfInBounds (off+p.2) p.1) cs)=(cs.toList.take off++xs++cs.toList.drop (off+xs.length)).toArray:=by
 have gen:∀(xs:List Value)(k:Nat)(cs:List Value)(off:Nat),off+k+xs.length<=cs.length ->
   (xs.zipIdx k).foldl (fun (cs:Array Value) (p:Value×Nat)=>cs.setIfInBounds (off+p.2) p.1) cs.toArray=(cs.take (off+k)++xs++cs.drop (off+k+xs.length)).toArray:=by
  intro xs
  induction xs with
  | nil=>intro k cs off _;simp
  | cons x r ih=>
   intro k cs off h
   simp only [List.length_cons] at h
   simp only [List.zipIdx_cons,List.foldl_cons,List.setIfInBounds_toArray]
   rw [ih (k+1) (cs.set (off+k) x) off (by simp;omega)]
   congr 1
   have hlt:off+k<cs.length:=by omega
   rw [List.set_eq_take_append_cons_drop,if_pos hlt]
   have e1:(cs.take (off+k)++x::cs.drop (off+k+1)).take (off+(k+1))=cs.take (off+k)++[x]:=by
    rw [List.take_append,List.take_of_length_le (by simp;omega),List.length_take,Nat.min_eq_left (by omega),show off+(k+1)-(off+k)=1 from by omega]
    simp
   have e2:(cs.take (off+k)++x::cs.drop (off+k+1)).drop (off+(k+1)+r.length)=cs.drop (off+k+(r.length+1)):=by
    rw [List.drop_append,List.drop_of_length_le (by simp;omega),List.length_take,Nat.min_eq_left (by omega),show off+(k+1)+r.length-(off+k)=r.length+1 from by omega]
    simp only [List.nil_append,List.drop_succ_cons,List.drop_drop]
    congr 1;omega
   rw [e1,e2]
   simp
 intro cs off h
 have:=gen xs 0 cs.toList off (by simpa using h)
 simpa [←Array.foldl_toList] using this
theorem lH {place:Nat->Option (Nat×Nat)}:∀(ps:List (Nat×SV))(cells out:List C),ml place cells ps=some out ->
  (∀x∈ps,∀v:C,v∈x.2.cells->∀p∈eh v,p) ->
  Instr.fill place (cells.map (C.den β)).toArray (ps.map fun x=>(x.1,x.2.den β))=some (out.map (C.den β)).toArray /\
  (∀s∈out.flatMap C.ids,s∈cells.flatMap C.ids\/∃x∈ps,s∈x.2.ids)
 | [],cells,out,h,_=>by
  simp only [ml,Option.some.injEq] at h;subst h
  exact ⟨rfl,fun s hs=>.inl hs⟩
 | (i,x)::r,cells,out,h,hone=>by
  simp only [ml] at h
  split at h
  ·cases h
  ·rename_i off size hp
   split at h
   ·rename_i hc
    simp only [Bool.and_eq_true,beq_eq,Bool.not_eq_eq_eq_not] at hc
    obtain ⟨⟨hl,hle⟩,hnt⟩:=hc
    have hle:=Nat.le_of_ble_eq_true hle
    have hnt:x.sY=false:=by simpa using hnt
    have h1:∀p∈x.eh,p:=fun p hp=>by
     obtain ⟨v,hv,hp⟩:=List.mem_flatMap.1 hp
     exact hone (i,x) (by simp) v hv p hp
    obtain ⟨hc1,-⟩:=SV.oU (β:=β) hnt h1
    obtain ⟨k1,k2⟩:=lH r _ _ h (fun y hy=>hone y (List.mem_cons_of_mem _ hy))
    refine ⟨?_,?_⟩
    ·simp only [List.map_cons,Instr.fill,hp]
     rw [if_neg (by rw [hc1];simp [hl];omega)]
     rw [hc1]
     have:=EI (x.cells.map (C.den β)) (cells.map (C.den β)).toArray off (by simpa [hl] using hle)
     rw [this]
     rw [←k1,nY]
     simp
    ·intro s hs
     rcases k2 s hs with h'|⟨y,hy,h'⟩
     ·rcases nX h' with h''|h''
      ·exact .inl h''
      ·exact .inr ⟨(i,x),by simp,SV.oV hnt h''⟩
     ·exact .inr ⟨y,List.mem_cons_of_mem _ hy,h'⟩
   ·cases h
theorem iX (hM:Mod n V0 bo β0 st β a w V):∀(l:List (Nat×Operand))(ps:List (Nat×SV)),partsOf st.aV l=some ps ->
  (l.map fun x=>(x.1,a.eval x.2))=(ps.map fun x=>(x.1,x.2.den β))/\∀x∈ps,Live st x.2
 | [],ps,h=>by simp only [partsOf,Option.some.injEq] at h;subst h;exact ⟨rfl,fun x hx=>by cases hx⟩
 | (i,o)::r,ps,h=>by
  simp only [partsOf] at h
  split at h
  ·rename_i x l hx hl
   simp only [Option.some.injEq] at h;subst h
   obtain ⟨h1,h2⟩:=iX hM r l hl
   refine ⟨by simp [h1,hM.eval hx],fun y hy=>?_⟩
   rcases List.mem_cons.1 hy with rfl|hy
   ·exact hM.live hx
   ·exact h2 y hy
  ·cases h
theorem eU (hM:Mod n V0 bo β0 st β a w V):∀(l:List Operand)(xs:List SV),bL st.aV l=some xs ->
  l.map a.eval=xs.map (SV.den β)/\∀x∈xs,Live st x
 | [],xs,h=>by simp only [bL,Option.some.injEq] at h;subst h;exact ⟨rfl,fun x hx=>by cases hx⟩
 | o::r,xs,h=>by
  simp only [bL] at h
  split at h
  ·rename_i x l hx hl
   simp only [Option.some.injEq] at h;subst h
   obtain ⟨h1,h2⟩:=eU hM r l hl
   refine ⟨by simp [h1,hM.eval hx],fun y hy=>?_⟩
   rcases List.mem_cons.1 hy with rfl|hy
   ·exact hM.live hx
   ·exact h2 y hy
  ·cases h
theorem ku (hT:cG.ok P T):∀(gs:List Field)(pl:List (Nat×Nat)),eP T (gs.map fun f=>(f.type,f.offset))=some pl ->
  ∀w:World,(gs.mapM fun f:Field=>do pure (f.offset,←sizeOf f.type)).run P w=.ok pl w
 | [],pl,h,w=>by simp only [List.map_nil,eP,Option.some.injEq] at h;subst h;simp
 | f::r,pl,h,w=>by
  simp only [List.map_cons,eP] at h
  split at h
  ·rename_i i l hi hl
   simp only [Option.some.injEq] at h;subst h
   obtain ⟨info,d,z,h1,h2,h3,h4,h5,-⟩:=aB (hT _ _ hi)
   have:=ku hT r l hl w
   simp only [bind_pure_comp] at this
   simp [List.mapM_cons,aK h1,this,h5]
  ·cases h
theorem dJ {i:TI}{z:Value}(h:i.zero=z.cells.toList.map C.ofConst):(i.zero.map (C.den β)).toArray=z.cells/\i.zero.flatMap C.ids=[]:=by
 rw [h]
 exact ⟨by rw [Aw],yh _⟩
theorem yp {ps:List (Nat×SV)}(h:∀p∈ps.flatMap (fun x=>x.2.eh),p):∀x∈ps,∀v:C,v∈x.2.cells->∀p∈eh v,p:=
 fun x hx v hv p hp=>h p (List.mem_flatMap.2 ⟨x,hx,List.mem_flatMap.2 ⟨v,hv,hp⟩⟩)
theorem parts_eq {parts:Array (Nat×Operand)}{ps:List (Nat×SV)}(h:(parts.toList.map fun x=>(x.1,a.eval x.2))=(ps.map fun x=>(x.1,x.2.den β))) :
  (parts.map fun x=>(x.1,a.eval x.2)).toList=ps.map fun x=>(x.1,x.2.den β):=by rw [Array.toList_map];exact h
theorem xK (hT:cG.ok P T)(hM:Mod n V0 bo β0 st β a w V){t:TypeId}{i:TI}(hi:jE P t=some i){fs:List (TypeId×Nat)}(hk:i.k=.struct fs)
  {parts:Array (Nat×Operand)}{ps:List (Nat×SV)}(hp:partsOf st.aV parts.toList=some ps){pl:List (Nat×Nat)}(hpl:eP T fs=some pl)
  {cs:List C}(hf:ml (fun j=>pl[j]?) i.zero ps=some cs)(hsc:∀p∈ps.flatMap (fun x=>x.2.eh),p) :
  (Instr.build t (parts.map fun x=>(x.1,a.eval x.2))).run P w=.ok (SV.den β (.agg cs)) w/\Live st (.agg cs):=by
 obtain ⟨info,d,z,h1,h2,h3,h4,h5,h6,h7⟩:=aB hi
 obtain ⟨q1,q2⟩:=iX hM _ _ hp
 rw [h4] at hk
 obtain ⟨gs,rfl,rfl⟩:=ie hk
 obtain ⟨z1,z2⟩:=dJ (β:=β) h7
 obtain ⟨f1,f2⟩:=lH (β:=β) _ _ _ hf (yp hsc)
 have hm:=ku hT gs.toList pl hpl w
 refine ⟨?_,?_⟩
 ·have Ov:(gs.mapM fun f:Field=>do pure (f.offset,←sizeOf f.type)).run P w=.ok pl.toArray w:=by
   rw [Array.mapM_eq_mapM_toList]
   simp only [Sem.run_map,hm,Result.andThen_ok]
  simp only [Instr.build,Sem.run_bind,gV h1 h3,Result.andThen_ok,aj h2,Ov]
  rw [parts_eq q1,←z1]
  have:(fun j:Nat=>pl.toArray[j]?)=fun j:Nat=>pl[j]?:=by funext j;simp
  rw [this,f1]
  rfl
 ·intro s hs
  rcases f2 s hs with h|⟨x,hx,h⟩
  ·rw [z2] at h;cases h
  ·exact q2 x hx s h
theorem zG (hT:cG.ok P T)(hM:Mod n V0 bo β0 st β a w V){t:TypeId}{i:TI}(hi:jE P t=some i){m:Nat}{e:TypeId}(hk:i.k=.arr m e)
  {parts:Array (Nat×Operand)}{ps:List (Nat×SV)}(hp:partsOf st.aV parts.toList=some ps){ei:TI}(he:az T e=some ei)
  {cs:List C}(hf:ml (fun j=>some (j*ei.size,ei.size)) i.zero ps=some cs)(hsc:∀p∈ps.flatMap (fun x=>x.2.eh),p) :
  (Instr.build t (parts.map fun x=>(x.1,a.eval x.2))).run P w=.ok (SV.den β (.agg cs)) w/\Live st (.agg cs):=by
 obtain ⟨info,d,z,h1,h2,h3,h4,h5,h6,h7⟩:=aB hi
 obtain ⟨fY,ed,ez,e1,e2,e3,e4,e5,e6,e7⟩:=aB (hT _ _ he)
 obtain ⟨q1,q2⟩:=iX hM _ _ hp
 rw [h4] at hk
 obtain rfl:=kM hk
 obtain ⟨z1,z2⟩:=dJ (β:=β) h7
 obtain ⟨f1,f2⟩:=lH (β:=β) _ _ _ hf (yp hsc)
 refine ⟨?_,?_⟩
 ·simp only [Instr.build,Sem.run_bind,gV h1 h3,Result.andThen_ok,aj h2,aK e1]
  rw [parts_eq q1,←z1,←e5,f1]
  rfl
 ·intro s hs
  rcases f2 s hs with h|⟨x,hx,h⟩
  ·rw [z2] at h;cases h
  ·exact q2 x hx s h
theorem E_ {α:Type}[Inhabited α](zs:List α)(m:Nat):((List.range (m*zs.length)).map fun j=>zs.toArray[j%zs.length]!)=(List.replicate m zs).flatten:=by
 induction m with
 | zero=>simp
 | succ m ih=>
  rw [List.replicate_succ',List.flatten_append,←ih,Nat.succ_mul,List.range_add,List.map_append]
  congr 1
  simp only [List.flatten_cons,List.flatten_nil,List.append_nil,List.map_map]
  apply List.ext_getElem?
  intro j
  rw [List.getElem?_map]
  by_cases hj:j<zs.length
  ·rw [List.getElem?_range hj]
   simp only [Option.map_some,Function.comp]
   rw [Nat.add_comm,Nat.add_mul_mod_self_right,Nat.mod_eq_of_lt hj]
   simp [hj]
  ·rw [List.getElem?_eq_none (by simp;omega),List.getElem?_eq_none (by omega)];rfl
theorem I_ (m:Nat)(zs:List C):(rep m zs).map (C.den β)=(List.replicate m (zs.map (C.den β))).flatten:=by
 unfold rep;rw [List.map_flatten,List.map_replicate]
theorem I9 {m:Nat}{zs:List C}(h:zs.flatMap C.ids=[]):(rep m zs).flatMap C.ids=[]:=by
 unfold rep
 induction m with
 | zero=>rfl
 | succ m ih=>rw [List.replicate_succ,List.flatten_cons,List.flatMap_append,h,ih];rfl
theorem oE (m:Nat)(zs:List Value):nj m zs=(List.replicate m zs).flatten:=by
 unfold nj
 split
 ·rename_i z
  induction m with
  | zero=>rfl
  | succ m ih=>rw [List.replicate_succ,List.replicate_succ,List.flatten_cons,ih];rfl
 ·rfl
theorem oM {z:Value}{m:Nat}(k:Nat)(hk:k=m*z.cells.size) :
  ((Array.range k).map fun j=>z.cells[j%z.cells.size]!)=((List.replicate m z.cells.toList).flatten).toArray:=by
 apply Array.ext'
 rw [Array.toList_map,Array.toList_range]
 subst hk
 have:=E_ z.cells.toList m
 simpa using this
theorem rN {z:Value}{m:Nat}(h0:m*z.cells.size=0):(List.replicate m z.cells.toList).flatten=[]:=by
 rcases Nat.mul_eq_zero.1 h0 with h|h
 ·subst h;rfl
 ·have:z.cells.toList=[]:=by
   have:z.cells.toList.length=0:=by simpa using h
   exact List.length_eq_zero_iff.1 this
  rw [this];simp
theorem Hs:Array.range 0=#[]:=rfl
theorem rP (hT:cG.ok P T)(hM:Mod n V0 bo β0 st β a w V){t:TypeId}{i:TI}(hi:jE P t=some i){e:TypeId}(hk:i.k=.slice e){len:Nat}
  {parts:Array (Nat×Operand)}{ps:List (Nat×SV)}(hp:partsOf st.aV parts.toList=some ps){ei:TI}(he:az T e=some ei)
  (hlen:len*ei.size<=16777216)(hzl:ei.zero.length=ei.size)(hz0:ei.size≠0)
  {cs:List C}(hf:ml (fun j=>some (j*ei.size,ei.size)) (rep len ei.zero) ps=some cs)(hsc:∀p∈ps.flatMap (fun x=>x.2.eh),p) :
  (Instr.buildSlice t len (parts.map fun x=>(x.1,a.eval x.2))).run P w=.ok (.slice (some ⟨w.heap.size,0,none⟩) len len) (w.alloc (aO.obj β ⟨.lit cs,e⟩)) /\
  ∀s∈cs.flatMap C.ids,∃b,st.boxes s=some b:=by
 obtain ⟨info,d,z,h1,h2,h3,h4,h5,h6,h7⟩:=aB hi
 obtain ⟨fY,ed,ez,e1,e2,e3,e4,e5,e6,e7⟩:=aB (hT _ _ he)
 obtain ⟨q1,q2⟩:=iX hM _ _ hp
 rw [h4] at hk
 obtain rfl:=aP hk
 obtain ⟨z1,z2⟩:=dJ (β:=β) e7
 obtain ⟨f1,f2⟩:=lH (β:=β) _ _ _ hf (yp hsc)
 have hzs:ez.cells.size=fY.size:=by rw [←z1];simp [hzl,e5]
 refine ⟨?_,?_⟩
 ·have hr2:((List.replicate len ez.cells.toList).flatten).toArray=((rep len ei.zero).map (C.den β)).toArray:=by
   rw [I_,←z1]
  have hn:¬len*fY.size>2^24:=by rw [←e5];simpa using hlen
  simp only [Instr.buildSlice,Sem.run_bind,aj h2,Result.andThen_ok,aK e1,Sem.run_ite,if_neg hn]
  by_cases h0:len*fY.size=0
  ·have hr:=rN (z:=ez) (m:=len) (by rw [hzs];exact h0)
   rw [hr] at hr2
   simp only [h0,if_true,Sem.run_pure,Result.andThen_ok,Hs,Array.map_empty,←hr2] at f1 ⊢
   rw [parts_eq q1,←e5]
   have TY:Instr.fill (fun j=>some (j*ei.size,ei.size)) #[] (ps.map fun x=>(x.1,x.2.den β))=some (cs.map (C.den β)).toArray:=f1
   rw [TY]
   simp only [Sem.run_bind,newRow,run_newObj,Result.andThen_ok,Sem.run_pure]
   rfl
  ·simp only [h0,if_false,gV e1 e3,Sem.run_pure,Result.andThen_ok]
   rw [oM (z:=ez) (m:=len) (len*fY.size) (by rw [hzs]),hr2,parts_eq q1,←e5,f1]
   simp only [Sem.run_bind,newRow,run_newObj,Result.andThen_ok,Sem.run_pure]
   rfl
 ·intro s hs
  rcases f2 s hs with h|⟨x,hx,h⟩
  ·rw [I9 z2] at h;cases h
  ·exact q2 x hx s h
theorem xw {x:Int}(h0:0<=x)(h1:x<9223372036854775808):i64.wrap x=x:=by
 unfold IntKind.wrap IntKind.bits IntKind.signed
 simp
 omega
theorem ve (hT:cG.ok P T){t:TypeId}{i:TI}(hi:jE P t=some i){e:TypeId}(hk:i.k=.slice e){ei:TI}(he:az T e=some ei)
  {k1 k2:IntKind}{l c:Int}(hb:ei.bytes≠0)(hs:ei.size≠0){zs:List Value}(hz:jK ei.zero=some zs)(hzl:ei.size=zs.length)
  (c1:0<=l)(c2:l<=c)(c3:(ei.bytes:Int)*c<=140737488355328) :
  (Instr.makeSlice t (.int k1 l) (.int k2 c)).run P w=.ok (.slice (some ⟨w.heap.size,0,none⟩) l.toNat c.toNat) (w.alloc (aO.obj β ⟨.row (nj c.toNat zs),e⟩)):=by
 obtain ⟨info,d,z,h1,h2,h3,h4,h5,h6,h7⟩:=aB hi
 obtain ⟨fY,ed,ez,e1,e2,e3,e4,e5,e6,e7⟩:=aB (hT _ _ he)
 rw [h4] at hk
 obtain rfl:=aP hk
 obtain ⟨z1,z2⟩:=dJ (β:=β) e7
 obtain ⟨d1,-⟩:=eY (β:=β) hz
 have hzs:ez.cells.size=fY.size:=by rw [←z1,d1];simp [←hzl,e5]
 have hbig:c<=140737488355328:=by
  have:1<=(ei.bytes:Int):=by omega
  have:=Int.mul_le_mul_of_nonneg_right this (by omega:0<=c)
  omega
 have w1:i64.wrap l=l:=xw c1 (by omega)
 have w2:i64.wrap c=c:=xw (by omega) (by omega)
 rw [e6] at c3
 have t1:(decide (c<0)||decide ((fY.bytes:Int)*c>2^48))=false:=by
  rw [show ((2:Int)^48)=281474976710656 from by decide]
  simp;omega
 have t2:decide (l<0)=false:=by simp;omega
 have t3:decide (l>c)=false:=by simp;omega
 have hrow:(List.replicate c.toNat ez.cells.toList).flatten=nj c.toNat zs:=by rw [oE,←d1,←z1]
 simp only [Instr.makeSlice,Sem.run_bind,aj h2,Result.andThen_ok,jj e1,asInt,asIntOf,Sem.run_pure,w1,w2,t1,t2,t3,Bool.or_self,Bool.false_eq_true,if_false,run_askRoom,aK e1,Sem.run_ite]
 by_cases h0:c.toNat*fY.size=0
 ·have hr:=rN (z:=ez) (m:=c.toNat) (by rw [hzs];exact h0)
  rw [hr] at hrow
  simp only [h0,if_true,Sem.run_bind,Sem.run_pure,Result.andThen_ok,Hs,Array.map_empty,newRow,run_newObj,←hrow]
  rfl
 ·simp only [h0,if_false,gV e1 e3,Result.andThen_ok]
  rw [oM (z:=ez) (m:=c.toNat) (c.toNat*fY.size) (by rw [hzs]),hrow]
  simp only [Sem.run_bind,newRow,run_newObj,Result.andThen_ok,Sem.run_pure]
  rfl
end Go.bw
namespace Go.bw
variable {P:Program} {T:cG} {n:Nat} {V0:View} {bo:BP} {β0:Nat->Nat} {st:St} {β:Nat->Nat} {a:Act} {w:World} {V:View}
theorem Ae {gs:Array Field}{f ft off:Nat}(h:(gs.toList.map fun f=>(f.type,f.offset))[f]?=some (ft,off)):∃H4,gs[f]?=some H4/\H4.type=ft/\H4.offset=off:=by
 rw [List.getElem?_map] at h
 cases hg:gs.toList[f]? with
 | none=>rw [hg] at h;cases h
 | some H4=>
  rw [hg] at h
  simp only [Option.map_some,Option.some.injEq,Prod.mk.injEq] at h
  exact ⟨H4,by simpa using hg,h.1,h.2⟩
theorem pW (hT:cG.ok P T){t:TypeId}{i:TI}(hi:jE P t=some i){fs:List (TypeId×Nat)}(hk:i.k=.struct fs){f ft off:Nat}(hf:fs[f]?=some (ft,off))
  {fi:TI}(hfi:az T ft=some fi)(hs:fi.size≠0)(ad:Addr):(Instr.fieldAt t (.pointer (some ad)) f).run P w=.ok (.pointer (some (ad.add off))) w:=by
 obtain ⟨info,d,z,h1,h2,h3,h4,h5,h6,h7⟩:=aB hi
 obtain ⟨R9,fd,fz,e1,e2,e3,e4,e5,e6,e7⟩:=aB (hT _ _ hfi)
 rw [h4] at hk
 obtain ⟨gs,rfl,rfl⟩:=ie hk
 obtain ⟨H4,k1,rfl,rfl⟩:=Ae hf
 simp only [Instr.fieldAt,Sem.run_bind,aj h2,Result.andThen_ok,k1,Instr.sureAddr,Sem.run_pure,fieldPlace,aK e1]
 rw [Sem.run_ite,if_neg (by omega)]
 rfl
theorem AK {t:TypeId}{i:TI}(hi:jE P t=some i)(cs:List C)(off:Nat) :
  (oK i.k=true->(part t (cs.map (C.den β)).toArray off).run P w=.ok (SV.den β (.agg ((cs.drop off).take i.size))) w) /\
  (∀c,oK i.k=false->cs[off]?=some c->(part t (cs.map (C.den β)).toArray off).run P w=.ok (c.den β) w):=by
 obtain ⟨info,d,z,h1,h2,h3,h4,h5,h6,h7⟩:=aB hi
 refine ⟨fun hk=>?_,fun c hk hc=>?_⟩
 ·rw [h4] at hk
  simp only [part,Sem.run_bind,fL h2,Result.andThen_ok,hk,if_true,aK h1,Sem.run_pure,SV.den]
  congr 2
  apply Array.ext'
  rw [←h5]
  simp [List.map_take,List.map_drop,List.extract,List.take_drop]
 ·rw [h4] at hk
  simp [part,fL h2,hk,hc]
theorem EG (hT:cG.ok P T){t:TypeId}{i:TI}(hi:jE P t=some i){fs:List (TypeId×Nat)}(hk:i.k=.struct fs){f ft off:Nat}(hf:fs[f]?=some (ft,off))
  {fi:TI}(hfi:az T ft=some fi){cs:List C} :
  (oK fi.k=true->(Instr.field t (SV.den β (.agg cs)) f).run P w=.ok (SV.den β (.agg ((cs.drop off).take fi.size))) w) /\
  (∀c,oK fi.k=false->cs[off]?=some c->(Instr.field t (SV.den β (.agg cs)) f).run P w=.ok (c.den β) w):=by
 obtain ⟨info,d,z,h1,h2,h3,h4,h5,h6,h7⟩:=aB hi
 rw [h4] at hk
 obtain ⟨gs,rfl,rfl⟩:=ie hk
 obtain ⟨H4,k1,rfl,rfl⟩:=Ae hf
 have hp:=AK (w:=w) (β:=β) (hT _ _ hfi) cs H4.offset
 have hr:∀r,(part H4.type (cs.map (C.den β)).toArray H4.offset).run P w=r->(Instr.field t (SV.den β (.agg cs)) f).run P w=r:=by
  intro r hr
  simp only [Instr.field,Sem.run_bind,aj h2,Result.andThen_ok,k1,asAgg,SV.den,Sem.run_pure,hr]
 exact ⟨fun h=>hr _ (hp.1 h),fun c h hc=>hr _ (hp.2 c h hc)⟩
theorem eO (k:IntKind)(x:Int):(asIntOf (.int k x)).run P w=.ok (k,x) w:=rfl
theorem tJ (hT:cG.ok P T){t:TypeId}{i:TI}(hi:jE P t=some i){x ix:SV}{sc:List Prop}{v:SV}(h:fJ T i x ix=.ret sc v)(hsc:∀p∈sc,p) :
  (Instr.indexAt t (x.den β) (ix.den β)).run P w=.ok (v.den β) w/\∀s∈v.ids,s∈x.ids:=by
 obtain ⟨info,d,z,h1,h2,h3,h4,h5,h6,h7⟩:=aB hi
 unfold fJ at h
 split at h
 ·rename_i k m
  split at h
  ·rename_i e hk
   rw [h4] at hk
   obtain rfl:=aP hk
   split at h
   ·rename_i ei he
    obtain ⟨fY,ed,ez,e1,e2,e3,e4,e5,e6,e7⟩:=aB (hT _ _ he)
    split at h
    ·rename_i ad len c
     simp only [Q.ret.injEq] at h;obtain ⟨rfl,rfl⟩:=h
     have c1:=hsc (ad.isSome=true) (by simp)
     have c2:=hsc (0<=m/\m<(len:Int)) (by simp)
     obtain ⟨p,rfl⟩:=Option.isSome_iff_exists.1 c1
     refine ⟨?_,fun s hs=>hs⟩
     simp [Instr.indexAt,SV.den,C.den,eO,aj h2,c2,aK e1,ag,e5]
    ·rename_i s o len c
     simp only [Q.ret.injEq] at h;obtain ⟨rfl,rfl⟩:=h
     have c2:=hsc (0<=m/\m<(len:Int)) (by simp)
     refine ⟨?_,fun s hs=>by simpa [SV.ids,C.ids] using hs⟩
     simp [Instr.indexAt,SV.den,C.den,eO,aj h2,c2,aK e1,fc,e5]
    ·rename_i s len c
     simp only [Q.ret.injEq] at h;obtain ⟨rfl,rfl⟩:=h
     have c2:=hsc (0<=m/\m<(len:Int)) (by simp)
     have c3:=hsc (len<=c) (by simp)
     refine ⟨?_,fun s hs=>by simpa [SV.ids,C.ids] using hs⟩
     have e0:mA (β s) c=some ⟨β s,0,none⟩:=by unfold mA;rw [if_neg (by omega)]
     simp [Instr.indexAt,SV.den,C.den,eO,aj h2,c2,aK e1,fc,e5,e0]
    ·cases h
   ·cases h
  ·rename_i len e hk
   rw [h4] at hk
   obtain rfl:=kM hk
   split at h
   ·rename_i ei he
    obtain ⟨fY,ed,ez,e1,e2,e3,e4,e5,e6,e7⟩:=aB (hT _ _ he)
    split at h
    ·rename_i s o
     simp only [Q.ret.injEq] at h;obtain ⟨rfl,rfl⟩:=h
     have c2:=hsc (0<=m/\m<(len:Int)) (by simp)
     refine ⟨?_,fun s hs=>by simpa [SV.ids,C.ids] using hs⟩
     simp [Instr.indexAt,Instr.sureAddr,SV.den,C.den,eO,aj h2,c2,aK e1,fc,e5]
    ·cases h
   ·cases h
  ·cases h
 ·cases h
theorem Ek {k:IntKind}{x:Int}{y:Nat}(code:BoundsCode)(h:0<=x/\x<=(y:Int)):(Instr.sliceBound (.int k x) y code).run P w=.ok x.toNat w:=by
 simp [Instr.sliceBound,eO,h]
theorem gg {len c:Nat}{lo hi mx:Option SV}{sc:List Prop}{l:Option Nat}{h m:Nat}(hq:lL len c lo hi mx=some (sc,l,h,m))(hsc:∀p∈sc,p) :
  (Instr.sliceBounds true len c (lo.map (SV.den β)) (hi.map (SV.den β)) (mx.map (SV.den β))).run P w=.ok (l.getD 0,h,m) w:=by
 unfold lL at hq
 cases ht:I5 c mx with
 | none=>rw [ht] at hq;cases hq
 | some t=>
  obtain ⟨p1,m'⟩:=t
  rw [ht] at hq
  dsimp only at hq
  cases hh:Hl len m' hi mx with
  | none=>rw [hh] at hq;cases hq
  | some t=>
   obtain ⟨p2,h'⟩:=t
   rw [hh] at hq
   dsimp only at hq
   cases hl:K0 h' lo with
   | none=>rw [hl] at hq;cases hq
   | some t=>
    obtain ⟨p3,l'⟩:=t
    rw [hl] at hq
    simp only [Option.some.injEq,Prod.mk.injEq] at hq
    obtain ⟨rfl,rfl,rfl,rfl⟩:=hq
    have hm:((mx=none/\m'=c)\/∃k x,mx=some (.c (.v (.int k x)))/\m'=x.toNat/\(0<=x/\x<=(c:Int))):=by
     unfold I5 at ht
     split at ht
     ·simp only [Option.some.injEq,Prod.mk.injEq] at ht;exact .inl ⟨rfl,ht.2.symm⟩
     ·rename_i k x
      simp only [Option.some.injEq,Prod.mk.injEq] at ht
      obtain ⟨rfl,rfl⟩:=ht
      exact .inr ⟨k,x,rfl,rfl,hsc _ (by simp)⟩
     ·cases ht
    have hhi:((hi=none/\mx=none/\h'=len)\/∃k x,hi=some (.c (.v (.int k x)))/\h'=x.toNat/\(0<=x/\x<=(m':Int))):=by
     unfold Hl at hh
     split at hh
     ·rename_i k x
      simp only [Option.some.injEq,Prod.mk.injEq] at hh
      obtain ⟨rfl,rfl⟩:=hh
      exact .inr ⟨k,x,rfl,rfl,hsc _ (by simp)⟩
     ·simp only [Option.some.injEq,Prod.mk.injEq] at hh;exact .inl ⟨rfl,rfl,hh.2.symm⟩
     ·cases hh
    have hlo:((lo=none/\l'=none)\/∃k x,lo=some (.c (.v (.int k x)))/\l'=some x.toNat/\(0<=x/\x<=(h':Int))):=by
     unfold K0 at hl
     split at hl
     ·simp only [Option.some.injEq,Prod.mk.injEq] at hl;exact .inl ⟨rfl,hl.2.symm⟩
     ·rename_i k x
      simp only [Option.some.injEq,Prod.mk.injEq] at hl
      obtain ⟨rfl,rfl⟩:=hl
      exact .inr ⟨k,x,rfl,rfl,hsc _ (by simp)⟩
     ·cases hl
    clear ht hh hl hsc
    rcases hm with ⟨rfl,rfl⟩|⟨k1,x1,rfl,rfl,b1⟩<;>rcases hhi with ⟨rfl,hx,rfl⟩|⟨k2,x2,rfl,rfl,b2⟩<;>rcases hlo with ⟨rfl,rfl⟩|⟨k3,x3,rfl,rfl,b3⟩ <;>
     (try cases hx) <;>
     simp only [Instr.sliceBounds,Option.map_none,Option.map_some,SV.den,C.den,Sem.run_bind,Sem.run_pure,Result.andThen_ok,Option.getD_none,Option.getD_some,Option.isSome_none,Option.isSome_some,if_true,Bool.false_eq_true,if_false] <;>
     (repeat (rw [Ek _ (by assumption)];simp only [Result.andThen_ok]))
theorem CK (hT:cG.ok P T){t:TypeId}{i:TI}(hi:jE P t=some i){e:TypeId}(hk:i.k=.slice e){ei:TI}(he:az T e=some ei){x:SV}{lo hi' mx:Option SV}{sc:List Prop}{v:SV}
  (h:pt ei.size x lo hi' mx=.ret sc v)(hsc:∀p∈sc,p) :
  (Instr.sliceAt t (x.den β) (lo.map (SV.den β)) (hi'.map (SV.den β)) (mx.map (SV.den β))).run P w=.ok (v.den β) w/\∀s∈v.ids,s∈x.ids:=by
 obtain ⟨info,d,z,h1,h2,h3,h4,h5,h6,h7⟩:=aB hi
 obtain ⟨fY,ed,ez,e1,e2,e3,e4,e5,e6,e7⟩:=aB (hT _ _ he)
 rw [h4] at hk
 obtain rfl:=aP hk
 have add0:∀p:OA,p.map (fun x=>x.add 0)=p:=by intro p;cases p<;>simp [Addr.add]
 unfold pt at h
 split at h
 ·rename_i ad len c
  split at h
  ·rename_i Oy hh m hb
   simp only [Q.ret.injEq] at h;obtain ⟨rfl,rfl⟩:=h
   have:=gg (P:=P) (w:=w) (β:=β) hb hsc
   refine ⟨?_,fun s hs=>hs⟩
   simp only [Instr.sliceAt,Instr.slice,SV.den,C.den,Sem.run_bind,aj h2,Result.andThen_ok,this,aK e1,Sem.run_pure,Option.getD_none,Nat.zero_mul,Nat.sub_zero,add0,ite_self]
  ·rename_i Oy l hh m hb
   simp only [Q.ret.injEq] at h;obtain ⟨rfl,rfl⟩:=h
   have:=gg (P:=P) (w:=w) (β:=β) hb hsc
   refine ⟨?_,fun s hs=>hs⟩
   simp only [Instr.sliceAt,Instr.slice,SV.den,C.den,Sem.run_bind,aj h2,Result.andThen_ok,this,aK e1,Sem.run_pure,Option.getD_some,e5]
   rfl
  ·cases h
 ·rename_i s o len c
  split at h
  ·rename_i Oy hh m hb
   simp only [Q.ret.injEq] at h;obtain ⟨rfl,rfl⟩:=h
   have:=gg (P:=P) (w:=w) (β:=β) hb hsc
   refine ⟨?_,fun s hs=>by simpa [SV.ids,C.ids] using hs⟩
   simp only [Instr.sliceAt,Instr.slice,SV.den,C.den,Sem.run_bind,aj h2,Result.andThen_ok,this,aK e1,Sem.run_pure,Option.getD_none,Nat.zero_mul,Nat.sub_zero,add0,ite_self]
  ·rename_i Oy l hh m hb
   simp only [Q.ret.injEq] at h;obtain ⟨rfl,rfl⟩:=h
   have:=gg (P:=P) (w:=w) (β:=β) hb hsc
   refine ⟨?_,fun s hs=>by simpa [SV.ids,C.ids] using hs⟩
   simp only [Instr.sliceAt,Instr.slice,SV.den,C.den,Sem.run_bind,aj h2,Result.andThen_ok,this,aK e1,Sem.run_pure,Option.getD_some,e5]
   congr 2
   unfold SR
   split<;>simp [fc]
  ·cases h
 ·rename_i s len c
  split at h
  ·split at h
   ·rename_i Oy hh m hb
    simp only [Q.ret.injEq] at h;obtain ⟨rfl,rfl⟩:=h
    have hm:m=c:=by
     unfold lL at hb
     simp only [I5] at hb
     split at hb
     ·cases hb
     ·split at hb
      ·cases hb
      ·simp only [Option.some.injEq,Prod.mk.injEq] at hb;exact hb.2.2.2.symm
    have:=gg (P:=P) (w:=w) (β:=β) hb hsc
    refine ⟨?_,fun s hs=>by simpa [SV.ids,C.ids] using hs⟩
    simp only [Instr.sliceAt,Instr.slice,SV.den,C.den,Sem.run_bind,aj h2,Result.andThen_ok,this,aK e1,Sem.run_pure,Option.getD_none,Nat.zero_mul,Nat.sub_zero,add0,ite_self,hm]
   ·cases h
  ·cases h
 ·cases h
end Go.bw
namespace Go.bw
variable {P:Program} {T:cG} {n:Nat} {V0:View} {bo:BP} {β0:Nat->Nat} {st:St} {β:Nat->Nat} {a:Act} {w:World} {V:View}
theorem dq {s:Sem Value}{v:Value}{w':World}(h:s.run P w=.ok v w'):(do pure (Next.value (←s)):Sem Next).run P w=.ok (.value v) w':=by
 simp [h]
theorem NH {s:Sem Unit}{w':World}(h:s.run P w=.ok () w'):(do s;pure Next.skip:Sem Next).run P w=.ok .skip w':=by
 simp [h]
theorem o_ {f:Int->Int->Int}{k:IntKind}{g:Value->Value->Sem Value}(hg:∀x y k',(g (.int k x) (.int k' y))=pure (.int k (f x y))):∀(r:List SV)(x m:Int),foldI f k x r=some m ->
  ((r.map (SV.den β)).foldlM g (.int k x)).run P w=.ok (.int k m) w
 | [],x,m,h=>by simp only [foldI,Option.some.injEq] at h;subst h;rfl
 | y::r,x,m,h=>by
  unfold foldI at h
  split at h
  ·rename_i e;cases e
  ·rename_i k' b r' e
   simp only [List.cons.injEq] at e
   obtain ⟨rfl,rfl⟩:=e
   split at h
   ·simp only [List.map_cons,List.foldlM_cons,SV.den,C.den,hg,pure_bind]
    exact o_ hg r _ m h
   ·cases h
  ·cases h
theorem D5:∀{cs:List C} {l:List (OA×Nat×Nat)} {k:Nat},D4 cs=some l->k<l.length->cs[k]?=some (.v (.slice (l.getD k (none,0,0)).1 (l.getD k (none,0,0)).2.1 (l.getD k (none,0,0)).2.2))
 | [],l,k,h,hk=>by cases h;cases hk
 | c::r,l,k,h,hk=>by
  unfold D4 at h
  split at h
  ·cases ‹_=[]›
  ·rename_i p n d r' e
   cases e
   split at h
   ·rename_i l' hl'
    cases h
    cases k with
    | zero=>rfl
    | succ k=>simpa using D5 hl' (by simpa using hk)
   ·cases h
  ·cases h
theorem pU {d:TypeDesc}(h:jk d=.str):d=.string:=by cases d<;>simp_all [jk]
theorem yy {b:Builtin}{xs:List SV}{t:TypeId}{ts:List TypeId}{ty:TypeId}{cs:Array Bool}{i:TI}(hi:jE P t=some i){sc:List Prop}{v:SV}(h:jF b i.k xs=.ret sc v) :
  (builtin b (t::ts).toArray ty cs (xs.map (SV.den β)).toArray).run P w=.ok (.value (v.den β)) w/\v.ids=[]:=by
 obtain ⟨info,d,z,h1,h2,h3,h4,h5,h6,h7⟩:=aB hi
 unfold jF at h
 split at h
 ·cases h
 ·rename_i x r
  split at h
  ·split at h
   ·rename_i e ad m c hk
    rw [h4] at hk
    obtain rfl:=aP hk
    simp only [Q.ret.injEq] at h;obtain ⟨rfl,rfl⟩:=h
    refine ⟨?_,rfl⟩
    simp [builtin,Builtin.len_,aj h2,SV.den,C.den,goInt]
   ·rename_i e s o m c hk
    rw [h4] at hk
    obtain rfl:=aP hk
    simp only [Q.ret.injEq] at h;obtain ⟨rfl,rfl⟩:=h
    refine ⟨?_,rfl⟩
    simp [builtin,Builtin.len_,aj h2,SV.den,C.den,goInt]
   ·rename_i e s m c hk
    rw [h4] at hk
    obtain rfl:=aP hk
    simp only [Q.ret.injEq] at h;obtain ⟨rfl,rfl⟩:=h
    refine ⟨?_,rfl⟩
    simp [builtin,Builtin.len_,aj h2,SV.den,C.den,goInt]
   ·rename_i s hk
    rw [h4] at hk
    obtain rfl:=pU hk
    simp only [Q.ret.injEq] at h;obtain ⟨rfl,rfl⟩:=h
    refine ⟨?_,rfl⟩
    simp [builtin,Builtin.len_,aj h2,SV.den,C.den,goInt]
   ·cases h
  ·split at h
   ·rename_i e ad m c hk
    rw [h4] at hk
    obtain rfl:=aP hk
    simp only [Q.ret.injEq] at h;obtain ⟨rfl,rfl⟩:=h
    refine ⟨?_,rfl⟩
    simp [builtin,Builtin.cap_,aj h2,SV.den,C.den,goInt]
   ·rename_i e s o m c hk
    rw [h4] at hk
    obtain rfl:=aP hk
    simp only [Q.ret.injEq] at h;obtain ⟨rfl,rfl⟩:=h
    refine ⟨?_,rfl⟩
    simp [builtin,Builtin.cap_,aj h2,SV.den,C.den,goInt]
   ·rename_i e s m c hk
    rw [h4] at hk
    obtain rfl:=aP hk
    simp only [Q.ret.injEq] at h;obtain ⟨rfl,rfl⟩:=h
    refine ⟨?_,rfl⟩
    simp [builtin,Builtin.cap_,aj h2,SV.den,C.den,goInt]
   ·cases h
  ·split at h
   ·rename_i k a
    split at h
    ·rename_i m hm
     simp only [Q.ret.injEq] at h;obtain ⟨rfl,rfl⟩:=h
     refine ⟨?_,rfl⟩
     have:=o_ (P:=P) (w:=w) (β:=β) (f:=bI) (k:=k) (g:=Builtin.min2) (fun x y k'=>by simp [Builtin.min2,bI]) r a m hm
     simp [builtin,Builtin.min_,SV.den,C.den] at this ⊢
     rw [this]
     rfl
    ·cases h
   ·cases h
  ·split at h
   ·rename_i k a
    split at h
    ·rename_i m hm
     simp only [Q.ret.injEq] at h;obtain ⟨rfl,rfl⟩:=h
     refine ⟨?_,rfl⟩
     have:=o_ (P:=P) (w:=w) (β:=β) (f:=bH) (k:=k) (g:=Builtin.max2) (fun x y k'=>by simp [Builtin.max2,bH]) r a m hm
     simp [builtin,Builtin.max_,SV.den,C.den] at this ⊢
     rw [this]
     rfl
    ·cases h
   ·cases h
  ·cases h
theorem F6 {x:Bool×List C}{y:SV}(h:oW x=some y):gJ β x=y.den β/\∀s∈y.ids,s∈x.2.flatMap C.ids:=by
 obtain ⟨b,cs⟩:=x
 cases b with
 | true=>simp only [oW,Option.some.injEq] at h;subst h;exact ⟨rfl,fun s hs=>hs⟩
 | false=>
  match cs,h with
  | [],h=>simp [oW] at h
  | [c],h=>simp only [oW,Option.some.injEq] at h;subst h;exact ⟨rfl,fun s hs=>by simpa [SV.ids] using hs⟩
  | _::_::_,h=>simp [oW] at h
theorem qf:∀(xs:List SV)(ss:List Nat),tG xs=some ss->xs.map (SV.den β)=(ss.map fun s=>Value.pointer (some ⟨β s,0,none⟩))/\∀s∈ss,∃x∈xs,s∈x.ids
 | [],ss,h=>by simp only [tG,Option.some.injEq] at h;subst h;exact ⟨rfl,fun s hs=>by cases hs⟩
 | x::r,ss,h=>by
  unfold tG at h
  split at h
  ·rename_i e;cases e
  ·rename_i s r' e
   simp only [List.cons.injEq] at e
   obtain ⟨rfl,rfl⟩:=e
   split at h
   ·rename_i l hl
    simp only [Option.some.injEq] at h;subst h
    obtain ⟨h1,h2⟩:=qf r l hl
    refine ⟨by simp [h1,SV.den,C.den],fun s' hs'=>?_⟩
    rcases List.mem_cons.1 hs' with rfl|hs'
    ·exact ⟨.c (.ptr s' 0),by simp,by simp [SV.ids,C.ids]⟩
    ·obtain ⟨y,hy,hs'⟩:=h2 s' hs';exact ⟨y,List.mem_cons_of_mem _ hy,hs'⟩
   ·cases h
  ·cases h
theorem tE (hM:Mod n V0 bo β0 st β a w V){x:Option Operand}{v:Option SV}(h:yq st.aV x=some v):x.map a.eval=v.map (SV.den β):=by
 cases x with
 | none=>simp only [yq,Option.some.injEq] at h;subst h;rfl
 | some o=>
  simp only [yq] at h
  split at h
  ·rename_i y hy;simp only [Option.some.injEq] at h;subst h;simp [hM.eval hy]
  ·cases h
theorem lI {x y:SV}(hx:Live st x)(h:∀s∈y.ids,s∈x.ids):Live st y:=fun s hs=>hx s (h s hs)
theorem kg {bx:Nat->Option aO}{t:TypeId}{x:SV}:kf T bx t x=.fail\/∃sc s b,kf T bx t x=.qC sc s b:=by
 unfold kf;split<;>(try split)<;>(try split)<;>(try split)<;>(try split)<;>(try split)<;>first|exact .inl rfl|exact .inr ⟨_,_,_,rfl⟩
theorem CI {bx:Nat->Option aO}{t:TypeId}{x:SV}{sc:List Prop}{v:SV}(h:kf T bx t x=.ret sc v):False:=by
 rcases kg (T:=T) (bx:=bx) (t:=t) (x:=x) with e|⟨_,_,_,e⟩<;>rw [e] at h<;>cases h
theorem AM {bx:Nat->Option aO}{e:TypeId}{ei:TI}{b x:SV}{sc:List Prop}{v:SV}(h:bP bx e ei b x=.ret sc v):False:=by
 unfold bP at h
 split at h
 ·cases h
 ·split at h
  ·cases h
  ·dsimp only at h
   split at h
   ·cases h
   ·split at h
    ·cases h
    ·split at h
     ·split at h<;>cases h
     ·cases h
    ·split at h
     ·split at h<;>cases h
     ·cases h
    ·cases h
theorem E6 (hT:cG.ok P T)(hM:Mod n V0 bo β0 st β a w V){o:Oper}{sc:List Prop}{v:SV}(h:aI T st.aV st.boxes o.op=.ret sc v)(hsc:∀p∈sc,p) :
  (execOp a.eval o).run P w=.ok (.value (v.den β)) w/\Live st v:=by
 unfold aI at h
 split at h
 case h_1 op x hop=>
  split at h
  ·rename_i y hy
   simp only [Q.ret.injEq] at h;obtain ⟨rfl,rfl⟩:=h
   refine ⟨?_,hM.live hy⟩
   simp only [execOp,hop,hM.eval hy];rfl
  ·cases h
 case h_2 op x hop=>
  split at h
  ·rename_i y hy
   simp only [Q.ret.injEq] at h;obtain ⟨rfl,rfl⟩:=h
   refine ⟨?_,hM.live hy⟩
   simp only [execOp,hop,hM.eval hy];rfl
  ·cases h
 case h_3 op c x y hop=>
  split at h
  ·rename_i hc
   split at h
   ·rename_i z hz
    simp only [Q.ret.injEq] at h;obtain ⟨rfl,rfl⟩:=h
    refine ⟨?_,hM.live hz⟩
    simp [execOp,hop,hM.eval hz,hM.eval hc,SV.den,C.den,asBool]
   ·cases h
  ·rename_i hc
   split at h
   ·rename_i z hz
    simp only [Q.ret.injEq] at h;obtain ⟨rfl,rfl⟩:=h
    refine ⟨?_,hM.live hz⟩
    simp [execOp,hop,hM.eval hz,hM.eval hc,SV.den,C.den,asBool]
   ·cases h
  ·cases h
 case h_4=>split at h<;>cases h
 case h_5=>
  split at h
  ·split at h<;>cases h
  ·cases h
 case h_6 op t parts hop=>
  split at h
  ·rename_i i ps hi hps
   have hi:=hT _ _ hi
   split at h
   ·rename_i fs hk
    split at h
    ·rename_i pl hpl
     split at h
     ·rename_i cs hcs
      simp only [Q.ret.injEq] at h;obtain ⟨rfl,rfl⟩:=h
      obtain ⟨h1,h2⟩:=xK hT hM hi hk hps hpl hcs hsc
      refine ⟨?_,h2⟩
      simp only [execOp,hop];exact dq h1
     ·cases h
    ·cases h
   ·rename_i m e hk
    split at h
    ·rename_i ei Ai
     split at h
     ·rename_i cs hcs
      simp only [Q.ret.injEq] at h;obtain ⟨rfl,rfl⟩:=h
      obtain ⟨h1,h2⟩:=zG hT hM hi hk hps Ai hcs hsc
      refine ⟨?_,h2⟩
      simp only [execOp,hop];exact dq h1
     ·cases h
    ·cases h
   ·cases h
  ·cases h
 case h_7=>
  split at h
  ·split at h
   ·split at h
    ·split at h
     ·split at h<;>cases h
     ·cases h
    ·cases h
   ·cases h
  ·cases h
 case h_8 op t x hop=>
  split at h
  ·rename_i i y hi hy
   obtain ⟨h1,h2⟩:=xh hM (hT _ _ hi) h
   refine ⟨?_,h2⟩
   simp only [execOp,hop,hM.eval hy];exact dq h1
  ·cases h
 case h_9=>
  split at h
  ·unfold fK at h
   split at h
   ·split at h
    ·split at h
     ·split at h<;>cases h
     ·split at h<;>cases h
     ·split at h
      ·cases h
      ·split at h<;>cases h
     ·cases h
    ·cases h
   ·cases h
  ·cases h
 case h_10 op x hop=>
  split at h
  ·rename_i s o hx
   simp only [Q.ret.injEq] at h;obtain ⟨rfl,rfl⟩:=h
   refine ⟨?_,hM.live hx⟩
   simp [execOp,hop,hM.eval hx,SV.den,C.den]
  ·rename_i p hx
   simp only [Q.ret.injEq] at h;obtain ⟨rfl,rfl⟩:=h
   obtain ⟨ad,rfl⟩:=Option.isSome_iff_exists.1 (hsc (p.isSome=true) (by simp))
   refine ⟨?_,hM.live hx⟩
   simp [execOp,hop,hM.eval hx,SV.den,C.den]
  ·cases h
 case h_11 op TP xt x y yt hop=>
  split at h
  ·rename_i p q hp hq
   have key:(q=.v .nilIface->∃c,y=.const c)->yx T TP xt p q=.ret sc v->(execOp a.eval o).run P w=.ok (.value (v.den β)) w/\Live st v:=by
    intro hc h
    obtain ⟨h1,h2⟩:=Hk (P:=P) (w:=w) (β:=β) hT (ox:=x) (oy:=y) h hsc hc
    refine ⟨?_,bG h2⟩
    simp only [execOp,hop,hM.eval hp,hM.eval hq];exact dq h1
   split at h
   ·split at h
    ·exact key (fun _=>⟨_,rfl⟩) h
    ·cases h
   ·rename_i hne;exact key (fun e=>absurd e hne) h
  ·cases h
 case h_12 op t x hop=>
  split at h
  ·rename_i hx
   simp only [Q.ret.injEq] at h;obtain ⟨rfl,rfl⟩:=h
   refine ⟨?_,bG rfl⟩
   simp [execOp,hop,hM.eval hx,SV.den,C.den,Op.unary]
  ·rename_i hx
   simp only [Q.ret.injEq] at h;obtain ⟨rfl,rfl⟩:=h
   refine ⟨?_,bG rfl⟩
   simp [execOp,hop,hM.eval hx,SV.den,C.den,Op.unary]
  ·rename_i b hx
   simp only [Q.ret.injEq] at h;obtain ⟨rfl,rfl⟩:=h
   refine ⟨?_,bG rfl⟩
   simp [execOp,hop,hM.eval hx,SV.den,C.den,Op.unary]
  ·cases h
 case h_13 op t x hop=>
  split at h
  ·rename_i k m hx
   simp only [Q.ret.injEq] at h;obtain ⟨rfl,rfl⟩:=h
   refine ⟨?_,bG rfl⟩
   simp [execOp,hop,hM.eval hx,SV.den,C.den,Op.unary,Op.intBits,bg]
  ·cases h
 case h_14 op t x hop=>
  split at h
  ·rename_i k m hx
   simp only [Q.ret.injEq] at h;obtain ⟨rfl,rfl⟩:=h
   refine ⟨?_,bG rfl⟩
   simp [execOp,hop,hM.eval hx,SV.den,C.den,Op.unary,Op.intArith]
  ·cases h
 case h_15 op src dst x hop=>
  split at h
  ·rename_i i0 i k m hi0 hi hx
   obtain ⟨JJ,d0,z0,g1,g2,-⟩:=aB (hT _ _ hi0)
   obtain ⟨info,d,z,h1,h2,h3,h4,h5,h6,h7⟩:=aB (hT _ _ hi)
   split at h
   ·rename_i k' hk
    rw [h4] at hk
    obtain rfl:=Ab hk
    simp only [Q.ret.injEq] at h;obtain ⟨rfl,rfl⟩:=h
    refine ⟨?_,bG rfl⟩
    simp only [execOp,hop,hM.eval hx]
    refine dq ?_
    simp only [convert,Sem.run_bind,aj g2,aj h2,Result.andThen_ok,SV.den,C.den]
    cases d0<;>rfl
   ·cases h
  ·cases h
 case h_16 op f first caps hop=>
  split at h
  ·rename_i hf
   split at h
   ·rename_i xs hxs
    split at h
    ·rename_i ss hss
     simp only [Q.ret.injEq] at h;obtain ⟨rfl,rfl⟩:=h
     obtain ⟨h1,h2⟩:=eU hM _ _ hxs
     obtain ⟨h3,h4⟩:=qf (β:=β) _ _ hss
     refine ⟨?_,fun s hs=>?_⟩
     ·have e1:first=#[]:=by apply Array.ext';exact hf
      have e2:caps.map a.eval=(ss.map fun s=>Value.pointer (some ⟨β s,0,none⟩)).toArray:=by
       apply Array.ext'
       rw [Array.toList_map,h1,h3]
      simp [execOp,hop,Instr.makeFunc,e1,e2,SV.den,C.den]
     ·obtain ⟨x,hx,hs'⟩:=h4 s hs
      exact h2 x hx s hs'
    ·cases h
   ·cases h
  ·cases h
 case h_17=>
  split at h
  ·unfold xi at h
   split at h
   ·split at h
    ·split at h
     ·split at h
      ·split at h<;>cases h
      ·cases h
     ·cases h
    ·cases h
   ·cases h
  ·cases h
 case h_18 op t x lo hi mx hop=>
  split at h
  ·rename_i i xv l h' m hi' hx hl hh hm
   have hi':=hT _ _ hi'
   split at h
   ·rename_i e hk
    split at h
    ·rename_i ei Ai
     obtain ⟨h1,h2⟩:=CK (P:=P) (w:=w) (β:=β) hT hi' hk Ai h hsc
     refine ⟨?_,lI (hM.live hx) h2⟩
     simp only [execOp,hop,hM.eval hx,tE hM hl,tE hM hh,tE hM hm];exact dq h1
    ·cases h
   ·cases h
  ·cases h
 case h_19 op t x f hop=>
  split at h
  ·rename_i i xv hi hx
   have hi:=hT _ _ hi
   split at h
   ·rename_i fs hk
    split at h
    ·rename_i ft off hf
     split at h
     ·rename_i fi hfi
      split at h
      ·cases h
      ·rename_i hs
       have hs:fi.size≠0:=fun e=>hs (beq_eq.2 e)
       split at h
       ·rename_i s o'
        simp only [Q.ret.injEq] at h;obtain ⟨rfl,rfl⟩:=h
        have:=pW (w:=w) hT hi hk hf hfi hs ⟨β s,o',none⟩
        rw [fc] at this
        refine ⟨?_,lI (hM.live hx) (fun s hs=>by simpa [SV.ids,C.ids] using hs)⟩
        simp only [execOp,hop,hM.eval hx];exact dq this
       ·rename_i p
        simp only [Q.ret.injEq] at h;obtain ⟨rfl,rfl⟩:=h
        obtain ⟨ad,rfl⟩:=Option.isSome_iff_exists.1 (hsc (p.isSome=true) (by simp))
        have:=pW (w:=w) hT hi hk hf hfi hs ad
        refine ⟨?_,bG rfl⟩
        simp only [execOp,hop,hM.eval hx];exact dq this
       ·cases h
     ·cases h
    ·cases h
   ·cases h
  ·cases h
 case h_20 op t x f hop=>
  split at h
  ·rename_i i cs hi hx
   have hi:=hT _ _ hi
   split at h
   ·rename_i fs hk
    split at h
    ·rename_i ft off hf
     split at h
     ·rename_i fi hfi
      obtain ⟨g1,g2⟩:=EG (P:=P) (w:=w) (β:=β) hT hi hk hf hfi (cs:=cs)
      have hagg:oK fi.k=true->Q.ret [] (.agg ((cs.drop off).take fi.size))=.ret sc v->(execOp a.eval o).run P w=.ok (.value (v.den β)) w/\Live st v:=by
       intro hk' h
       simp only [Q.ret.injEq] at h;obtain ⟨rfl,rfl⟩:=h
       refine ⟨?_,lI (hM.live hx) fun s hs=>?_⟩
       ·simp only [execOp,hop,hM.eval hx];exact dq (g1 hk')
       ·obtain ⟨c,hc,hs⟩:=List.mem_flatMap.1 hs
        exact f_ (List.mem_of_mem_drop (List.mem_of_mem_take hc)) hs
      split at h
      ·rename_i hk';exact hagg (by rw [hk'];rfl) h
      ·rename_i hk';exact hagg (by rw [hk'];rfl) h
      ·rename_i hk1 hk2
       have hk':oK fi.k=false:=by
        cases hik:fi.k<;>first|rfl|exact absurd hik (hk1 _)|exact absurd hik (hk2 _ _)
       split at h
       ·rename_i c hc
        simp only [Q.ret.injEq] at h;obtain ⟨rfl,rfl⟩:=h
        refine ⟨?_,lI (hM.live hx) fun s hs=>?_⟩
        ·simp only [execOp,hop,hM.eval hx];exact dq (g2 c hk' hc)
        ·exact f_ (List.mem_of_getElem? hc) hs
       ·cases h
     ·cases h
    ·cases h
   ·cases h
  ·cases h
 case h_21 op t x ix hop=>
  split at h
  ·rename_i i xv iv hi hx hix
   obtain ⟨h1,h2⟩:=tJ (P:=P) (w:=w) (β:=β) hT (hT _ _ hi) h hsc
   refine ⟨?_,lI (hM.live hx) h2⟩
   simp only [execOp,hop,hM.eval hx,hM.eval hix];exact dq h1
  ·cases h
 case h_22 op x j hop=>
  split at h
  ·rename_i xs hx
   split at h
   ·rename_i y hy
    split at h
    ·rename_i z hz
     simp only [Q.ret.injEq] at h;obtain ⟨rfl,rfl⟩:=h
     obtain ⟨h1,h2⟩:=F6 (β:=β) hz
     refine ⟨?_,lI (hM.live hx) fun s hs=>List.mem_flatMap.2 ⟨y,List.mem_of_getElem? hy,h2 s hs⟩⟩
     have:(xs.map (gJ β))[j]?=some (z.den β):=by rw [List.getElem?_map,hy];simp [h1]
     simp [execOp,hop,hM.eval hx,SV.den,Instr.extract,hy,h1]
    ·cases h
   ·cases h
  ·cases h
 case h_23 op c hop=>
  split at h
  ·split at h
   ·split at h
    ·split at h
     ·split at h
      ·exact (AM h).elim
      ·cases h
     ·cases h
    ·cases h
   ·cases h
  ·split at h
   ·exact (CI h).elim
   ·cases h
  ·rename_i b hb hb2 hc
   split at h
   ·rename_i xs t ts hxs hts
    split at h
    ·rename_i i hi
     obtain ⟨h1,h2⟩:=eU hM _ _ hxs
     have e1:c.argTypes=(t::ts).toArray:=by apply Array.ext';exact hts
     have e2:c.args.map a.eval=(xs.map (SV.den β)).toArray:=by apply Array.ext';rw [Array.toList_map];exact h1
     obtain ⟨k1,k2⟩:=yy (P:=P) (w:=w) (β:=β) (ts:=ts) (ty:=o.type) (cs:=c.args.map fun|.const _=>true|_=>false) (hT _ _ hi) h
     refine ⟨?_,bG k2⟩
     simp only [execOp,hop,resolve,hc,pure_bind,invoke,e1,e2]
     exact k1
    ·cases h
   ·cases h
  ·cases h
 case h_24 op t x ix hop=>
  split at h
  ·rename_i i s k m hi hx hix
   split at h
   ·rename_i hk
    obtain ⟨info,d,z,h1,h2,h3,h4,h5,h6,h7⟩:=aB (hT _ _ hi)
    rw [h4] at hk
    obtain rfl:=pU hk
    simp only [Q.ret.injEq] at h;obtain ⟨rfl,rfl⟩:=h
    have hb:=hsc _ (List.mem_singleton.2 rfl)
    refine ⟨?_,bG rfl⟩
    have hlt:m.toNat<s.size:=by omega
    have e:s.data.toList.getD m.toNat 0=s[m.toNat]'hlt:=by
     have:s.data.toList[m.toNat]?=some (s[m.toNat]'hlt):=by
      rw [Array.getElem?_toList];exact Array.getElem?_eq_getElem (by simpa using hlt)
     rw [List.getD_eq_getElem?_getD,this];rfl
    simp only [execOp,hop,hM.eval hx,hM.eval hix,SV.den,C.den]
    refine dq ?_
    rw [run_index_string (w:=w) t s k m h2,dif_pos hb,e]
   ·cases h
  ·rename_i i cs k m hi hx hix
   unfold jG at h
   split at h
   ·rename_i n e hk
    split at h
    ·rename_i ei l Ai hl
     split at h
     ·rename_i e2 hek
      split at h
      ·rename_i hb
       rw [Bool.and_eq_true] at hb
       simp only [Q.ret.injEq] at h;obtain ⟨rfl,rfl⟩:=h
       have hm:=hsc _ (List.mem_singleton.2 rfl)
       obtain ⟨info,d,z,h1,h2,h3,h4,h5,h6,h7⟩:=aB (hT _ _ hi)
       rw [h4] at hk
       obtain rfl:=kM hk
       obtain ⟨fY,ed,ez,e1,e2,e3,e4,e5,e6,e7⟩:=aB (hT _ _ Ai)
       refine ⟨?_,bG rfl⟩
       have b1:=beq_eq.1 hb.1
       have b2:=beq_eq.1 hb.2
       have hc:=D5 hl (show m.toNat<l.length by omega)
       have hp:=(AK (w:=w) (β:=β) (hT _ _ Ai) cs m.toNat).2 _ (by rw [hek];rfl) hc
       simp only [execOp,hop,hM.eval hx,hM.eval hix]
       refine dq ?_
       have es:m.toNat*fY.size=m.toNat:=by rw [←e5,b1,Nat.mul_one]
       simp only [Instr.index,SV.den,C.den,eO,Sem.run_bind,Result.andThen_ok,aj h2,Sem.run_ite,if_pos hm,aK e1,es]
       exact hp
      ·cases h
     ·cases h
    ·cases h
   ·cases h
  ·cases h
 case h_25 op t x hop=>
  split at h
  ·rename_i i y hi hx
   obtain ⟨info,d,z,h1,h2,h3,h4,h5,h6,h7⟩:=aB (hT _ _ hi)
   unfold tI at h
   split at h
   ·cases h
   ·rename_i hk
    split at h
    ·rename_i eZ UL
     simp only [Q.ret.injEq] at h;obtain ⟨rfl,rfl⟩:=h
     refine ⟨?_,bG rfl⟩
     simp only [execOp,hop,hM.eval hx]
     refine dq ?_
     have hd:∀ms,d≠.interface ms:=fun ms e=>by rw [e] at h4;exact hk h4
     have e2:y.den β=y.den fun _=>0:=SV.bC fun s hs=>by rw [eZ] at hs;cases hs
     show (Instr.makeInterface t (y.den β)).run P w=.ok (.iface t (y.den fun _=>0)) w
     rw [e2]
     generalize y.den (fun _=>0)=u
     simp only [Instr.makeInterface,Sem.run_bind,aj h2,Result.andThen_ok]
     cases d<;>first|rfl|exact absurd rfl (hd _)
    ·cases h
  ·cases h
 case h_26=>cases h
end Go.bw
namespace Go.bw
variable {P:Program} {T:cG} {n:Nat} {V0:View} {bo:BP} {β0:Nat->Nat} {st:St} {β:Nat->Nat} {a:Act} {w:World} {V:View}
theorem E5 (hT:cG.ok P T)(hM:Mod n V0 bo β0 st β a w V){o:Oper}{sc:List Prop}{b:aO}{x:Nat->SV}(h:aI T st.aV st.boxes o.op=.new sc b x)(hsc:∀p∈sc,p) :
  ∃v,(execOp a.eval o).run P w=.ok (.value v) (w.alloc (b.obj β))/\(∀d,v=(x d).den (du β d w.heap.size)/\(x d).ids=[d])/\(∀s∈b.cs.ids,∃b',st.boxes s=some b'):=by
 have hx:∀d,SV.den (du β d w.heap.size) (.c (.ptr d 0))=.pointer (some ⟨w.heap.size,0,none⟩):=fun d=>by simp [SV.den,C.den,aN]
 have hy:∀d m c,SV.den (du β d w.heap.size) (.c (.kE d 0 m c))=.slice (some ⟨w.heap.size,0,none⟩) m c:=fun d m c=>by simp [SV.den,C.den,aN]
 unfold aI at h
 split at h
 case h_1=>split at h<;>cases h
 case h_2=>split at h<;>cases h
 case h_3=>split at h<;>(try split at h)<;>cases h
 case h_4 op t hop=>
  split at h
  ·rename_i i hi
   obtain ⟨info,d,z,h1,h2,h3,h4,h5,h6,h7⟩:=aB (hT _ _ hi)
   simp only [Q.new.injEq] at h;obtain ⟨rfl,rfl,rfl⟩:=h
   obtain ⟨z1,z2⟩:=dJ (β:=β) h7
   refine ⟨.pointer (some ⟨w.heap.size,0,none⟩),?_,fun d=>⟨(hx d).symm,rfl⟩,fun s hs=>by rw [show Cells.ids (.lit i.zero)=[] from z2] at hs;cases hs⟩
   simp only [execOp,hop]
   refine dq ?_
   simp only [Instr.alloc,Sem.run_bind,gV h1 h3,Result.andThen_ok,newVar,newRow,run_newObj,Sem.run_pure,aO.obj,Cells.den,z1]
   rfl
  ·cases h
 case h_5 op t y hop=>
  split at h
  ·rename_i v hv
   split at h
   ·cases h
   ·rename_i hnt
    simp only [Q.new.injEq] at h;obtain ⟨rfl,rfl,rfl⟩:=h
    obtain ⟨c1,-⟩:=SV.oU (β:=β) hnt hsc
    refine ⟨.pointer (some ⟨w.heap.size,0,none⟩),?_,fun d=>⟨(hx d).symm,rfl⟩,fun s hs=>hM.live hv s (SV.oV hnt hs)⟩
    simp only [execOp,hop,hM.eval hv]
    refine dq ?_
    simp only [Instr.box,newVar,newRow,Sem.run_bind,run_newObj,Result.andThen_ok,Sem.run_pure,c1,aO.obj,Cells.den]
    rfl
  ·cases h
 case h_6=>
  split at h
  ·split at h
   ·split at h
    ·split at h<;>cases h
    ·cases h
   ·split at h
    ·split at h<;>cases h
    ·cases h
   ·cases h
  ·cases h
 case h_7 op t len parts hop=>
  split at h
  ·rename_i i ps hi hps
   split at h
   ·rename_i e hk
    split at h
    ·rename_i ei Ai
     split at h
     ·rename_i hc
      simp only [Bool.and_eq_true,beq_eq,Bool.not_eq_eq_eq_not] at hc
      obtain ⟨⟨c1,c2⟩,c3⟩:=hc
      have c1:=Nat.le_of_ble_eq_true c1
      have c3:ei.size≠0:=fun e=>by rw [e] at c3;cases c3
      split at h
      ·rename_i cs hcs
       simp only [Q.new.injEq] at h;obtain ⟨rfl,rfl,rfl⟩:=h
       obtain ⟨h1,h2⟩:=rP hT hM (hT _ _ hi) hk hps Ai c1 c2 c3 hcs hsc
       exact ⟨_,by simp only [execOp,hop];exact dq h1,fun d=>⟨(hy d _ _).symm,rfl⟩,h2⟩
      ·cases h
     ·cases h
    ·cases h
   ·cases h
  ·cases h
 case h_8=>
  split at h
  ·unfold iu at h
   split at h
   ·split at h
    ·split at h
     ·split at h<;>cases h
     ·split at h<;>cases h
     ·split at h<;>cases h
    ·cases h
    ·split at h<;>cases h
    ·cases h
   ·split at h<;>cases h
   ·cases h
  ·cases h
 case h_9=>
  split at h
  ·unfold fK at h
   split at h
   ·split at h
    ·split at h
     ·split at h<;>cases h
     ·split at h<;>cases h
     ·split at h
      ·cases h
      ·split at h<;>cases h
     ·cases h
    ·cases h
   ·cases h
  ·cases h
 case h_10=>split at h<;>cases h
 case h_11=>
  split at h
  ·have key:∀{op xt} {p q:C},yx T op xt p q≠.new sc b x:=by
    intro op xt p q h
    have hi:∀k m m',kP op k m m'≠.new sc b x:=fun k m m' h=>by cases op<;>cases h
    have hn:∀neg k,yA neg k p q≠.new sc b x:=fun neg k h=>by
     unfold yA at h
     split at h<;>(try split at h)<;>(try split at h)<;>cases h
    unfold yx at h
    split at h
    ·split at h
     ·split at h
      ·split at h
       ·exact hi _ _ _ h
       ·exact hi _ _ _ h
       ·split at h
        ·exact hi _ _ _ h
        ·cases h
      ·cases h
     ·split at h
      ·split at h<;>cases h
      ·cases h
     ·split at h
      ·exact hn _ _ h
      ·exact hn _ _ h
      ·cases h
    ·cases h
   split at h
   ·split at h
    ·exact (key h).elim
    ·cases h
   ·exact (key h).elim
  ·cases h
 case h_12=>split at h<;>cases h
 case h_13=>split at h<;>cases h
 case h_14=>split at h<;>cases h
 case h_15=>
  split at h
  ·split at h<;>cases h
  ·cases h
 case h_16=>split at h<;>(try split at h)<;>(try split at h)<;>cases h
 case h_17 op t l c hop=>
  split at h
  ·rename_i i lv cv hi hl hc
   unfold xi at h
   split at h
   ·rename_i e hk
    split at h
    ·rename_i ei Ai
     split at h
     ·rename_i k1 m1 k2 m2
      split at h
      ·rename_i zs hzs
       split at h
       ·cases h
       ·rename_i hcond
        simp only [Bool.or_eq_true,beq_eq,Bool.not_eq_eq_eq_not,not_or] at hcond
        obtain ⟨⟨g1,g2⟩,g3⟩:=hcond
        simp only [Q.new.injEq] at h;obtain ⟨rfl,rfl,rfl⟩:=h
        have g3:ei.size=zs.length:=by
         rcases hb:Nat.beq ei.size zs.length with _|_
         ·rw [hb] at g3;exact absurd rfl g3
         ·exact beq_eq.1 hb
        have hm:=ve (P:=P) (w:=w) (β:=β) hT (hT _ _ hi) hk Ai (k1:=k1) (k2:=k2) (l:=m1) (c:=m2) g1 g2 hzs g3 (hsc _ (by simp)) (hsc _ (by simp)) (hsc _ (by simp))
        refine ⟨_,?_,fun d=>⟨(hy d _ _).symm,rfl⟩,fun s hs=>by simp [Cells.ids] at hs⟩
        simp only [execOp,hop,hM.eval hl,hM.eval hc]
        exact dq hm
      ·cases h
     ·cases h
    ·cases h
   ·cases h
  ·cases h
 case h_18=>
  split at h
  ·split at h
   ·split at h
    ·unfold pt at h
     split at h<;>(try split at h)<;>(try split at h)<;>cases h
    ·cases h
   ·cases h
  ·cases h
 case h_19=>
  split at h
  ·split at h
   ·split at h
    ·split at h
     ·split at h
      ·cases h
      ·split at h<;>cases h
     ·cases h
    ·cases h
   ·cases h
  ·cases h
 case h_20=>
  split at h
  ·split at h
   ·split at h
    ·split at h
     ·split at h
      ·cases h
      ·cases h
      ·split at h<;>cases h
     ·cases h
    ·cases h
   ·cases h
  ·cases h
 case h_21=>
  split at h
  ·unfold fJ at h
   split at h
   ·split at h
    ·split at h
     ·split at h<;>cases h
     ·cases h
    ·split at h
     ·split at h<;>cases h
     ·cases h
    ·cases h
   ·cases h
  ·cases h
 case h_22=>split at h<;>(try split at h)<;>(try split at h)<;>cases h
 case h_23=>
  split at h
  ·split at h
   ·split at h
    ·split at h
     ·split at h
      ·unfold bP at h
       split at h
       ·cases h
       ·split at h
        ·cases h
        ·dsimp only at h
         split at h
         ·cases h
         ·split at h
          ·cases h
          ·split at h
           ·split at h<;>cases h
           ·cases h
          ·split at h
           ·split at h<;>cases h
           ·cases h
          ·cases h
      ·cases h
     ·cases h
    ·cases h
   ·cases h
  ·split at h
   ·exfalso
    rcases kg (T:=T) (bx:=st.boxes) with e|⟨_,_,_,e⟩<;>(rw [e] at h;cases h)
   ·cases h
  ·split at h
   ·split at h
    ·unfold jF at h
     split at h
     ·cases h
     ·split at h<;>(try split at h)<;>(try split at h)<;>cases h
    ·cases h
   ·cases h
  ·cases h
 case h_24=>
  split at h
  ·split at h<;>cases h
  ·unfold jG at h
   split at h
   ·split at h
    ·split at h
     ·split at h<;>cases h
     ·cases h
    ·cases h
   ·cases h
  ·cases h
 case h_25=>
  split at h
  ·unfold tI at h
   split at h
   ·cases h
   ·split at h<;>cases h
  ·cases h
 case h_26=>cases h
def cL:Q->Nat
 | .fail=>0|.ret ..=>1|.new ..=>2|.qC ..=>3|.rd ..=>4|.mo ..=>5|.app ..=>6|.pk ..=>6
theorem mS {op:BinOp}{k:IntKind}{x y:Int}:cL (kP op k x y)<=1:=by cases op<;>exact Nat.le_refl _
theorem A6 {neg:Bool}{k:TK}{x y:C}:cL (yA neg k x y)<=1:=by
 unfold yA;split<;>(try split)<;>(try split)<;>first|exact Nat.le_refl _|exact Nat.zero_le _
theorem mr {i:TI}{cs:List C}{k:Int}:cL (jG T i cs k)<=1:=by
 unfold jG
 split
 ·split
  ·split
   ·split<;>first|exact Nat.le_refl _|exact Nat.zero_le _
   ·exact Nat.zero_le _
  ·exact Nat.zero_le _
 ·exact Nat.zero_le _
theorem oe {op:BinOp}{xt:TypeId}{x y:C}:cL (yx T op xt x y)<=1:=by
 unfold yx
 split
 ·split
  ·split
   ·split
    ·exact mS
    ·exact mS
    ·split
     ·exact mS
     ·exact Nat.zero_le _
   ·exact Nat.zero_le _
  ·split
   ·split<;>first|exact Nat.le_refl _|exact Nat.zero_le _
   ·exact Nat.zero_le _
  ·split
   ·exact A6
   ·exact A6
   ·exact Nat.zero_le _
 ·exact Nat.zero_le _
theorem tU {sz:Nat}{x:SV}{lo hi mx:Option SV}:cL (pt sz x lo hi mx)<=1:=by
 unfold pt;split<;>(try split)<;>(try split)<;>first|exact Nat.le_refl _|exact Nat.zero_le _
theorem lf {i:TI}{x ix:SV}:cL (fJ T i x ix)<=1:=by
 unfold fJ;split<;>(try split)<;>(try split)<;>(try split)<;>first|exact Nat.le_refl _|exact Nat.zero_le _
theorem og {b:Builtin}{k:TK}{xs:List SV}:cL (jF b k xs)<=1:=by
 unfold jF;split<;>(try split)<;>(try split)<;>(try split)<;>first|exact Nat.le_refl _|exact Nat.zero_le _
theorem Fh {i:TI}{l c:SV}:cL (xi T i l c)=0\/cL (xi T i l c)=2:=by
 unfold xi;split<;>(try split)<;>(try split)<;>(try split)<;>(try split)<;>first|exact .inl rfl|exact .inr rfl
theorem mU {bx:Nat->Option aO}{i:TI}{a x:SV}:cL (fK bx i a x)=0\/cL (fK bx i a x)=3:=by
 unfold fK;split<;>(try split)<;>(try split)<;>(try split)<;>(try split)<;>first|exact .inl rfl|exact .inr rfl
theorem pw {bx:Nat->Option aO}{i:TI}{x:SV}:cL (iu bx i x)=0\/cL (iu bx i x)=1\/cL (iu bx i x)=4\/cL (iu bx i x)=5:=by
 unfold iu;split<;>(try split)<;>(try split)<;>(try split)<;>first|exact .inl rfl|exact .inr (.inl rfl)|exact .inr (.inr (.inl rfl))|exact .inr (.inr (.inr rfl))
theorem k_ {bx:Nat->Option aO}{e:TypeId}{ei:TI}{b x:SV}:cL (bP bx e ei b x)=0\/cL (bP bx e ei b x)=6:=by
 unfold bP
 split
 ·exact .inl rfl
 ·split
  ·exact .inl rfl
  ·dsimp only
   split
   ·exact .inl rfl
   ·split<;>(try split)<;>(try split)<;>first|exact .inl rfl|exact .inr rfl
theorem mT {bx:Nat->Option aO}{t:TypeId}{x:SV}:cL (kf T bx t x)=0\/cL (kf T bx t x)=3:=by
 rcases kg (T:=T) (bx:=bx) (t:=t) (x:=x) with e|⟨_,_,_,e⟩<;>rw [e]<;>first|exact .inl rfl|exact .inr rfl
theorem eV {ρ:Operand->Option SV}{bx:Nat->Option aO}{op:Op} :
  (cL (aI T ρ bx op)=3->((∃t a x,op=.store t a x)\/∃c,op=.call c/\c.callee=.builtin .clear))/\(cL (aI T ρ bx op)=4\/cL (aI T ρ bx op)=5->∃t a,op=.load t a) /\
  (cL (aI T ρ bx op)=6->∃c,op=.call c/\c.callee=.builtin .append):=by
 have e_:∀{q:Q},cL q<=1->(cL q=3->((∃t a x,op=.store t a x)\/∃c,op=.call c/\c.callee=.builtin .clear))/\(cL q=4\/cL q=5->∃t a,op=.load t a)/\(cL q=6->∃c,op=.call c/\c.callee=.builtin .append):=by
  intro q h;exact ⟨by omega,by omega,by omega⟩
 have SH:∀{q:Q},cL q=0\/cL q=2->(cL q=3->((∃t a x,op=.store t a x)\/∃c,op=.call c/\c.callee=.builtin .clear))/\(cL q=4\/cL q=5->∃t a,op=.load t a)/\(cL q=6->∃c,op=.call c/\c.callee=.builtin .append):=by
  intro q h;exact ⟨by omega,by omega,by omega⟩
 unfold aI
 split
 case h_8=>
  split
  ·refine ⟨fun h=>?_,fun _=>⟨_,_,rfl⟩,fun h=>?_⟩
   ·rcases pw (bx:=bx) with h'|h'|h'|h'<;>(rw [h'] at h;cases h)
   ·rcases pw (bx:=bx) with h'|h'|h'|h'<;>(rw [h'] at h;cases h)
  ·exact e_ (Nat.zero_le _)
 case h_9=>
  split
  ·refine ⟨fun _=>.inl ⟨_,_,_,rfl⟩,fun h=>?_,fun h=>?_⟩
   ·rcases mU (bx:=bx) with h'|h'<;>(rw [h'] at h;rcases h with h|h<;>cases h)
   ·rcases mU (bx:=bx) with h'|h'<;>(rw [h'] at h;cases h)
  ·exact e_ (Nat.zero_le _)
 case h_11=>
  split
  ·split
   ·split
    ·exact e_ oe
    ·exact e_ (Nat.zero_le _)
   ·exact e_ oe
  ·exact e_ (Nat.zero_le _)
 case h_17=>
  split
  ·exact SH Fh
  ·exact e_ (Nat.zero_le _)
 case h_18=>
  split
  ·split
   ·split
    ·exact e_ tU
    ·exact e_ (Nat.zero_le _)
   ·exact e_ (Nat.zero_le _)
  ·exact e_ (Nat.zero_le _)
 case h_21=>
  split
  ·exact e_ lf
  ·exact e_ (Nat.zero_le _)
 case h_23 c=>
  split
  ·rename_i hc
   refine ⟨fun h=>?_,fun h=>?_,fun _=>⟨c,rfl,hc⟩⟩
   ·exfalso
    split at h<;>(try split at h)<;>(try split at h)<;>(try split at h)<;>first|(rcases k_ (bx:=bx) with h'|h'<;>(rw [h'] at h;cases h))|cases h
   ·exfalso
    split at h<;>(try split at h)<;>(try split at h)<;>(try split at h)<;>first|(rcases k_ (bx:=bx) with h'|h'<;>(rw [h'] at h;rcases h with h|h<;>cases h))|(rcases h with h|h<;>cases h)
  ·rename_i hc
   split
   ·refine ⟨fun _=>.inr ⟨c,rfl,hc⟩,fun h=>?_,fun h=>?_⟩
    ·rcases mT (T:=T) (bx:=bx) with h'|h'<;>(rw [h'] at h;rcases h with h|h<;>cases h)
    ·rcases mT (T:=T) (bx:=bx) with h'|h'<;>(rw [h'] at h;cases h)
   ·exact e_ (Nat.zero_le _)
  ·split
   ·split
    ·exact e_ og
    ·exact e_ (Nat.zero_le _)
   ·exact e_ (Nat.zero_le _)
  ·exact e_ (Nat.zero_le _)
 case h_24=>
  split
  ·split
   ·exact e_ (Nat.le_refl _)
   ·exact e_ (Nat.zero_le _)
  ·exact e_ mr
  ·exact e_ (Nat.zero_le _)
 case h_25=>
  split
  ·unfold tI
   split
   ·exact e_ (Nat.zero_le _)
   ·split
    ·exact e_ (Nat.le_refl _)
    ·exact e_ (Nat.zero_le _)
  ·exact e_ (Nat.zero_le _)
 all_goals
  first
  | exact e_ (Nat.zero_le _)
  | ((repeat' split)<;>first|exact e_ (Nat.zero_le _)|exact e_ (Nat.le_refl _)|exact SH (.inr rfl))
theorem CJ (hT:cG.ok P T)(hM:Mod n V0 bo β0 st β a w V){t:TypeId}{x:SV}{sc:List Prop}{s:Nat}{b:aO}(h:kf T st.boxes t x=.qC sc s b)(hsc:∀p∈sc,p)(ty:TypeId)(cs:Array Bool) :
  ∃w',(builtin .clear #[t] ty cs #[x.den β]).run P w=.ok (.value (.tuple #[])) w'/\Mod n V0 bo β0 (st.box s b) β a w' V:=by
 unfold kf at h
 split at h
 ·rename_i i hi
  split at h
  ·rename_i e hk
   split at h
   ·rename_i ei Ai
    split at h
    ·rename_i zs g o k c hz
     split at h
     ·rename_i vs et hb
      split at h
      ·cases h
      ·rename_i hc
       simp only [Q.qC.injEq] at h;obtain ⟨rfl,rfl,rfl⟩:=h
       simp only [Bool.or_eq_true,beq_eq,Bool.not_eq_true',not_or,Bool.not_eq_false,List.all_eq_true] at hc
       obtain ⟨⟨c1,c2⟩,c3⟩:=hc
       obtain ⟨info,d,z,h1,h2,h3,h4,h5,h6,h7⟩:=aB (hT _ _ hi)
       obtain ⟨fY,ed,ez,e1,e2,e3,e4,e5,e6,e7⟩:=aB (hT _ _ Ai)
       rw [h4] at hk
       obtain rfl:=aP hk
       obtain ⟨z1,z2⟩:=dJ (β:=β) e7
       obtain ⟨d1,-⟩:=eY (β:=β) hz
       have hzs:ez.cells.size=fY.size:=by rw [←z1,d1];simp [←e5,c2]
       have Ut:ez.cells.toList=zs:=by rw [←d1,←z1]
       have hle:o+k*ei.size<=vs.length:=hsc _ (by simp)
       have hzl:∀m,(nj m zs).length=m*ei.size:=fun m=>by
        rw [oE,c2]
        simp [List.length_flatten]
       have hz1:∀v∈nj k zs,v.oneCell'=true:=fun v hv=>by
        rw [oE] at hv
        obtain ⟨l,hl,hv⟩:=List.mem_flatten.1 hv
        rw [List.eq_of_mem_replicate hl] at hv
        exact c3 v hv
       have hrow:w.heap[β g]?=some (.cells vs.toArray et (0,0)):=hM.row hb bS
       have key:=run_storeCells_at (P:=P) (β g) o et (nj k zs) 0 vs.toArray w hrow (by simpa [hzl] using hle) hz1
       simp only [Nat.add_zero,hzl] at key
       refine ⟨w.setRow (β g) (vs.take o++nj k zs++vs.drop (o+k*ei.size)).toArray,?_,hM.qC hb bS (by intro s' hs';simp [Cells.ids] at hs') (by rw [dH hrow];rfl) rfl rfl rfl⟩
       have hrun:(Builtin.clear_ #[t] ty #[SV.den β (.c (.kE g o k c))]).run P w=.ok (.tuple #[]) (w.setRow (β g) (vs.take o++nj k zs++vs.drop (o+k*ei.size)).toArray):=by
        cases k with
        | zero=>
         have e0:(vs.take o++nj 0 zs++vs.drop (o+0*ei.size)).toArray=vs.toArray:=by
          rw [oE];simp
         rw [e0,setRow_self w (β g) vs.toArray et (0,0) hrow]
         simp [Builtin.clear_,aj h2,SV.den,C.den]
        | succ k=>
         have ek:(Builtin.zeroCells ez.cells (k+1)).toList=nj (k+1) zs:=by
          unfold Builtin.zeroCells
          rw [oM (z:=ez) (m:=k+1) _ rfl,oE,Ut]
         have US:(zeroValue e).run P w=.ok ez w:=gV e1 e3 w
         simp only [List.append_assoc] at key ⊢
         simp [Builtin.clear_,aj h2,SV.den,C.den,US,ek,key]
       simp only [builtin]
       exact dq hrun
     ·cases h
    ·cases h
   ·cases h
  ·cases h
 ·cases h
theorem E7 (hT:cG.ok P T)(hM:Mod n V0 bo β0 st β a w V){o:Oper}{sc:List Prop}{s:Nat}{b:aO}(h:aI T st.aV st.boxes o.op=.qC sc s b)(hsc:∀p∈sc,p) :
  ∃nx w',(execOp a.eval o).run P w=.ok nx w'/\(nx=.skip\/∃v,nx=.value v)/\Mod n V0 bo β0 (st.box s b) β a w' V:=by
 rcases (eV (T:=T) (ρ:=st.aV) (bx:=st.boxes) (op:=o.op)).1 (by rw [h];rfl) with ⟨t,y,x,hop⟩|⟨c,hop,nL⟩
 ·rw [hop] at h
  simp only [aI] at h
  split at h
  ·rename_i i av xv hi Fw hxv
   obtain ⟨w',h1,h2⟩:=CL hM (hT _ _ hi) (hM.live hxv) h hsc
   refine ⟨.skip,w',?_,.inl rfl,h2⟩
   simp only [execOp,hop,hM.eval Fw,hM.eval hxv]
   exact NH h1
  ·cases h
 ·obtain ⟨Dy,args,ts⟩:=c
  dsimp only at nL
  subst nL
  rw [hop] at h
  simp only [aI] at h
  split at h
  ·rename_i x t hxs hts
   obtain ⟨h1,-⟩:=eU hM _ _ hxs
   have e1:ts=#[t]:=by apply Array.ext';exact hts
   have e2:args.map a.eval=#[x.den β]:=by apply Array.ext';rw [Array.toList_map];exact h1
   obtain ⟨w',k1,k2⟩:=CJ hT hM h hsc o.type (args.map fun|.const _=>true|_=>false)
   refine ⟨.value (.tuple #[]),w',?_,.inr ⟨_,rfl⟩,k2⟩
   simp only [execOp,hop,resolve,pure_bind,invoke,e1,e2]
   exact k1
  ·cases h
theorem Hq (hT:cG.ok P T)(hM:Mod n V0 bo β0 st β a w V){o:Oper}{p:OA}{sh:rE}(h:aI T st.aV st.boxes o.op=.rd p sh){x:SV}{k:Prop}
  (hx:x.ids=[])(hs:(∃c,x=.c c/\∃s',sh=.one s')\/∃cs l,x=.agg cs/\sh=.agg l/\cs.length=l.length)(hr:V.H8 p x k) :
  (execOp a.eval o).run P w=.ok (.value (x.den β)) w/\k:=by
 obtain ⟨t,y,hop⟩:=(eV (T:=T) (ρ:=st.aV) (bx:=st.boxes) (op:=o.op)).2.1 (by rw [h];exact .inl rfl)
 rw [hop] at h
 simp only [aI] at h
 split at h
 ·rename_i i av hi Fw
  unfold iu at h
  split at h
  ·split at h
   ·split at h
    ·split at h<;>cases h
    ·split at h<;>cases h
    ·split at h<;>cases h
   ·cases h
   ·split at h<;>cases h
   ·cases h
  ·split at h
   ·rename_i hz
    simp only [Q.rd.injEq] at h
    obtain ⟨rfl,rfl⟩:=h
    obtain ⟨h1,h2⟩:=K4 hM (hT _ _ hi) (beq_eq.1 hz) hx hs hr
    refine ⟨?_,h2⟩
    simp only [execOp,hop,hM.eval Fw]
    exact dq h1
   ·cases h
  ·cases h
 ·cases h
theorem AO (hT:cG.ok P T)(hM:Mod n V0 bo β0 st β a w V){o:Oper}{vs:List Value}{of size:Nat}{sh:rE}(h:aI T st.aV st.boxes o.op=.mo vs of size sh){x:SV}
  (hx:x.ids=[])(hs:(∃c,x=.c c/\∃s',sh=.one s')\/∃cs l,x=.agg cs/\sh=.agg l/\cs.length=l.length)(hr:Jb vs of size x) :
  (execOp a.eval o).run P w=.ok (.value (x.den β)) w:=by
 obtain ⟨t,y,hop⟩:=(eV (T:=T) (ρ:=st.aV) (bx:=st.boxes) (op:=o.op)).2.1 (by rw [h];exact .inr rfl)
 rw [hop] at h
 simp only [aI] at h
 split at h
 ·rename_i i av hi Fw
  unfold iu at h
  split at h
  ·split at h
   ·split at h
    ·split at h<;>cases h
    ·split at h<;>cases h
    ·split at h<;>cases h
   ·rename_i hb
    simp only [Q.mo.injEq] at h
    obtain ⟨rfl,rfl,rfl,rfl⟩:=h
    have h1:=xj hM (hT _ _ hi) (.inl hb) hx hs hr
    simp only [execOp,hop,hM.eval Fw]
    exact dq h1
   ·rename_i hb
    split at h
    ·cases h
    ·rename_i hz
     simp only [Q.mo.injEq] at h
     obtain ⟨rfl,rfl,rfl,rfl⟩:=h
     have h1:=xj hM (hT _ _ hi) (.inr ⟨hb,fun e=>hz (by rw [e];rfl)⟩) hx hs hr
     simp only [execOp,hop,hM.eval Fw]
     exact dq h1
   ·cases h
  ·split at h<;>cases h
  ·cases h
 ·cases h
end Go.bw
