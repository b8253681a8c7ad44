import Derived.Test.YtnnbfoejafcdlaaGreatDoorG1
set_option linter.unusedVariables false
open Go.IntKind (i64 u64 u32)
namespace Go.bM
variable {P:Program} {T:dA} {n:Nat} {V0:View} {bH:Fw} {β0:Nat->Nat} {st:St} {β:Nat->Nat} {a:Act} {w:World} {V:View}
theorem gF (b o k:Nat):(⟨b,o,none⟩:Addr).add k=⟨b,o+k,none⟩:=by
 unfold Addr.add;split
 ·rename_i h;subst h;rfl
 ·rfl
theorem cell_of_row {g o:Nat}{vs:List Value}{ty:TypeId}(h:w.heap[g]?=some (.cells vs.toArray ty (0,0))):w.cell? ⟨g,o,none⟩=vs[o]?:=by
 simp [World.cell?,h]
theorem Ea {g o m:Nat}{vs:List Value}{ty t:TypeId}{info:TypeInfo}{d:TypeDesc}(h:w.heap[g]?=some (.cells vs.toArray ty (0,0)))
  (h1:P.info? t=some info)(h2:P.underlying t=some d)(hm:info.size=m)(hk:rJ (kI d)=true)(hl:o+m<=vs.length) :
  (loadVar t ⟨g,o,none⟩).run P w=.ok (.agg ((vs.drop o).take m).toArray) w:=by
 subst hm
 have key:=run_loadCells_list (P:=P) (w:=w) ⟨g,o,none⟩ ((vs.drop o).take info.size) (by
  intro j v a
  rw [gF,cell_of_row h]
  rw [List.getElem?_take] at a
  split at a
  ·rw [List.getElem?_drop] at a;exact a
  ·cases a)
 rw [List.length_take,List.length_drop,Nat.min_eq_left (by omega)] at key
 simp only [loadVar,Sem.run_bind,ia h2,Result.andThen_ok,hk,if_true,aL h1,key,Sem.run_pure]
theorem AY {g o:Nat}{vs:List Value}{ty t:TypeId}{d:TypeDesc}{v:Value}(h:w.heap[g]?=some (.cells vs.toArray ty (0,0)))
  (h2:P.underlying t=some d)(hk:rJ (kI d)=false)(hv:vs[o]?=some v) :
  (loadVar t ⟨g,o,none⟩).run P w=.ok v w:=by
 simp only [loadVar,Sem.run_bind,ia h2,Result.andThen_ok,hk,Bool.false_eq_true,if_false,run_load,cell_of_row h,hv]
theorem Mod.row (hM:Mod n V0 bH β0 st β a w V){s:Nat}{b:aR}(hb:st.boxes s=some b)(lb:b.live):w.heap[β s]?=some (.cells (b.cs.den β).toArray b.ty (0,0)):=hM.boxes s b hb lb
theorem iD {cs:List C}{c:C}{s:Nat}(hc:c∈cs)(hs:s∈c.ids):s∈cs.flatMap C.ids:=List.mem_flatMap.2 ⟨c,hc,hs⟩
theorem Ba (hM:Mod n V0 bH β0 st β a w V){t:TypeId}{i:TI}(hi:lu P t=some i){x:SV}{sc:List Prop}{v:SV}(h:jI st.boxes i x=.ret sc v) :
  (Instr.loadAt t (x.den β)).run P w=.ok (v.den β) w/\Live st v:=by
 obtain ⟨info,d,z,D,y,F,A,E,-⟩:=aC hi
 unfold jI at h
 split at h
 ·rename_i b o
  split at h
  ·rename_i cs ty B
   have e:=hM.row B df
   have f:=hM.Aa b _ B
   simp only [Cells.den] at e
   have g:rJ i.k=true->(if Nat.ble (o+i.size) cs.length then Q.ret [] (.agg ((cs.drop o).take i.size)) else .fail)=.ret sc v ->
     (Instr.loadAt t (SV.den β (.c (.ptr b o)))).run P w=.ok (v.den β) w/\Live st v:=by
    intro j h
    split at h
    ·rename_i q
     have q:=Nat.le_of_ble_eq_true q
     simp only [Q.ret.injEq] at h;obtain ⟨-,rfl⟩:=h
     refine ⟨?_,?_⟩
     ·have:=Ea (t:=t) (o:=o) (m:=i.size) e D y E.symm (A▸j) (by simpa using q)
      simp only [Instr.loadAt,Instr.sureAddr,SV.den,C.den,Sem.run_bind,Sem.run_pure,Result.andThen_ok,this]
      rw [List.map_take,List.map_drop]
     ·intro s l
      obtain ⟨c,p,l⟩:=List.mem_flatMap.1 l
      exact f s (iD (List.mem_of_mem_drop (List.mem_of_mem_take p)) l)
    ·cases h
   split at h
   ·rename_i j;exact g (by rw [j];rfl) h
   ·rename_i j;exact g (by rw [j];rfl) h
   ·rename_i r u
    have j:rJ i.k=false:=by
     cases hik:i.k<;>first|rfl|exact absurd hik (r _)|exact absurd hik (u _ _)
    split at h
    ·rename_i c p
     simp only [Q.ret.injEq] at h;obtain ⟨-,rfl⟩:=h
     refine ⟨?_,?_⟩
     ·have:=AY (t:=t) (o:=o) (v:=c.den β) e y (A▸j) (by simp [p])
      simp only [Instr.loadAt,Instr.sureAddr,SV.den,C.den,Sem.run_bind,Sem.run_pure,Result.andThen_ok,this]
     ·intro s l
      exact f s (iD (List.mem_of_getElem? p) l)
    ·cases h
  ·cases h
  ·split at h<;>cases h
  ·cases h
 ·split at h<;>cases h
 ·cases h
theorem yw.eX:∀(s:yw) {K:C->Prop},s.ex K->∃c,c.ids=[]/\K c
 | .int _,_,⟨_,h⟩=>⟨_,rfl,h⟩
 | .bool,_,⟨_,h⟩=>⟨_,rfl,h⟩
 | .slice,_,⟨_,_,_,h⟩=>⟨_,rfl,h⟩
 | .ptr,_,⟨_,h⟩=>⟨_,rfl,h⟩
 | .str,_,⟨_,h⟩=>⟨_,rfl,h⟩
 | .any,_,⟨_,h⟩=>⟨_,rfl,h⟩
theorem qo:∀(l:List yw) {K:List C->Prop},PH l K->∃cs,cs.flatMap C.ids=[]/\cs.length=l.length/\K cs
 | [],_,h=>⟨[],rfl,rfl,h⟩
 | s::r,K,h=>by
  obtain ⟨c,hc,h'⟩:=yw.eX s h
  obtain ⟨cs,a,b,d⟩:=qo r h'
  exact ⟨c::cs,by simp [hc,a],by simp [b],d⟩
theorem ve.eX:∀(s:ve) {K:SV->Prop},s.ex K->∃x,x.ids=[]/\((∃c,x=.c c/\∃s',s=.one s')\/∃cs l,x=.agg cs/\s=.agg l/\cs.length=l.length)/\K x
 | .one s,K,h=>by obtain ⟨c,hc,h'⟩:=yw.eX s h;exact ⟨.c c,hc,.inl ⟨c,rfl,s,rfl⟩,h'⟩
 | .agg l,K,h=>by obtain ⟨cs,a,b,h'⟩:=qo l h;exact ⟨.agg cs,a,.inr ⟨cs,l,rfl,rfl,b⟩,h'⟩
theorem vY:∀(l:List ve) {K:List (Bool×List C)->Prop},Q7 l K->∃xs,(xs.flatMap fun x=>x.2.flatMap C.ids)=[]/\K xs
 | [],_,h=>⟨[],rfl,h⟩
 | .one s::r,K,h=>by
  obtain ⟨c,hc,h'⟩:=yw.eX s h
  obtain ⟨xs,a,b⟩:=vY r h'
  exact ⟨_,by simp [hc,a],b⟩
 | .agg l::r,K,h=>by
  obtain ⟨cs,hc,-,h'⟩:=qo l h
  obtain ⟨xs,a,b⟩:=vY r h'
  exact ⟨(true,cs)::xs,by simp only [List.flatMap_cons,hc,a,List.append_nil],b⟩
theorem Sh.eX:∀(s:Sh) {K:SV->Prop},s.ex K->∃x,x.ids=[]/\K x
 | .val s,K,h=>by obtain ⟨x,hx,-,h'⟩:=ve.eX s h;exact ⟨x,hx,h'⟩
 | .pU l,K,h=>by obtain ⟨xs,hx,h'⟩:=vY l h;exact ⟨.pU xs,hx,h'⟩
 | .none,K,h=>⟨.pU [],rfl,h⟩
theorem kc {x:SV}(h:x.ids=[])(β β':Nat->Nat):x.den β=x.den β':=SV.bR fun s a=>by rw [h] at a;cases a
theorem bT {x:SV}(h:x.ids=[]):Live st x:=fun s a=>by rw [h] at a;cases a
theorem ED:∀(cs:List C) (p:Addr) (i:Nat) {k:Prop},V.NT p i cs k->(∀j c,cs[j]?=some c->V.at (p.add (i+j)) (c.den fun _=>0))/\k
 | [],_,_,_,h=>⟨fun j c hj=>by simp at hj,h⟩
 | c::r,p,i,k,⟨h1,h2⟩=>by
  obtain ⟨h3,h4⟩:=ED r p (i+1) h2
  refine ⟨fun j d hj=>?_,h4⟩
  cases j with
  | zero=>simp at hj;subst hj;exact h1
  | succ j=>simp at hj;have:=h3 j d hj;rwa [show i+1+j=i+(j+1) from by omega] at this
theorem Mod.Vc (hM:Mod n V0 bH β0 st β a w V){p:Addr}{v:Value}(h:V.at p v):w.cell? p=some v:=by
 obtain ⟨d,b⟩:=h
 unfold World.cell? at b ⊢
 split at b
 ·rename_i c e f g
  rw [(hM.pV p.block _ ⟨d,g⟩).1]
  exact b
 ·cases b
theorem H6 {i:TI}{l:List yw}(h:lD i=.agg l):rJ i.k=true/\l.length=i.zero.length:=by
 unfold lD at h
 split at h
 ·rename_i a;simp only [ve.agg.injEq] at h;subst h;exact ⟨by rw [a];rfl,by simp⟩
 ·rename_i a;simp only [ve.agg.injEq] at h;subst h;exact ⟨by rw [a];rfl,by simp⟩
 ·split at h<;>cases h
theorem H7 {i:TI}{s:yw}(h:lD i=.one s):rJ i.k=false:=by
 unfold lD at h
 split at h
 ·cases h
 ·cases h
 ·rename_i a b
  cases hik:i.k<;>first|rfl|exact absurd hik (a _)|exact absurd hik (b _ _)
theorem Qx (hM:Mod n V0 bH β0 st β a w V){t:TypeId}{i:TI}(hi:lu P t=some i)(hz:i.zero.length=i.size){p:OA}{x:SV}{k:Prop}
  (hx:x.ids=[])(hs:(∃c,x=.c c/\∃s',lD i=.one s')\/∃cs l,x=.agg cs/\lD i=.agg l/\cs.length=l.length)(h:V.MC p x k) :
  (Instr.loadAt t (.pointer p)).run P w=.ok (x.den β) w/\k:=by
 obtain ⟨info,d,z,r,o,F,q,u,-⟩:=aC hi
 rcases hs with ⟨c,rfl,s,hs⟩|⟨cs,l,rfl,hs,y⟩
 ·obtain ⟨⟨f,rfl,g⟩,A⟩:=h
  have b:=H7 hs
  rw [q] at b
  refine ⟨?_,A⟩
  simp only [Instr.loadAt,Instr.sureAddr,Sem.run_bind,Sem.run_pure,Result.andThen_ok,loadVar,ia o,b,Bool.false_eq_true,if_false,run_load,hM.Vc g]
  rw [kc hx β fun _=>0]
  rfl
 ·obtain ⟨f,rfl,B⟩:=h
  obtain ⟨b,m⟩:=H6 hs
  rw [q] at b
  obtain ⟨D,E⟩:=ED cs f 0 B
  refine ⟨?_,E⟩
  have key:=run_loadCells_list (P:=P) (w:=w) f (cs.map (C.den fun _=>0)) (by
   intro j v e
   rw [List.getElem?_map] at e
   cases hc:cs[j]? with
   | none=>rw [hc] at e;cases e
   | some c=>
    rw [hc] at e
    simp only [Option.map_some,Option.some.injEq] at e
    subst e
    have:=hM.Vc (D j c hc)
    simpa using this)
  rw [List.length_map,y,m,hz,u] at key
  simp only [Instr.loadAt,Instr.sureAddr,Sem.run_bind,Sem.run_pure,Result.andThen_ok,loadVar,ia o,b,if_true,aL r,key]
  rw [kc hx β fun _=>0]
  rfl
theorem Bc (hM:Mod n V0 bH β0 st β a w V){t:TypeId}{i:TI}(hi:lu P t=some i){b o:Nat}{vs:List Value}{ty:TypeId}(hb:st.boxes b=some ⟨.row vs,ty⟩\/(st.boxes b=some ⟨.aW vs,ty⟩/\i.size≠0)){x:SV}
  (hx:x.ids=[])(hs:(∃c,x=.c c/\∃s',lD i=.one s')\/∃cs l,x=.agg cs/\lD i=.agg l/\cs.length=l.length)(h:NY vs o i.size x) :
  (Instr.loadAt t (SV.den β (.c (.ptr b o)))).run P w=.ok (x.den β) w:=by
 obtain ⟨info,d,z,p,j,A,k,q,-⟩:=aC hi
 have g:w.heap[β b]?=some (.cells vs.toArray ty (0,0)):=by
  rcases hb with hb|⟨hb,B⟩
  ·exact hM.row hb cz
  ·refine hM.row hb (fY fun e=>?_)
   subst e
   rcases hs with ⟨c,rfl,s,hs⟩|⟨cs,l,rfl,hs,r⟩
   ·simp [NY] at h
   ·have:=h.1
    simp at this
    omega
 rcases hs with ⟨c,rfl,s,hs⟩|⟨cs,l,rfl,hs,r⟩
 ·have f:=H7 hs
  rw [k] at f
  have:=AY (t:=t) (o:=o) g j f h
  rw [show SV.den β (.c c)=C.den (fun _=>0) c from kc (x:=.c c) hx β _]
  show (Instr.loadAt t (.pointer (some ⟨β b,o,none⟩))).run P w=_
  simp only [Instr.loadAt,Instr.sureAddr,Sem.run_bind,Sem.run_pure,Result.andThen_ok,this]
 ·obtain ⟨f,u⟩:=H6 hs
  rw [k] at f
  obtain ⟨v,y⟩:=h
  have:=Ea (t:=t) (o:=o) (m:=i.size) g p j q.symm f v
  simp only [Instr.loadAt,Instr.sureAddr,C.den,SV.den,Sem.run_bind,Sem.run_pure,Result.andThen_ok,this,y]
  have:=kc (x:=.agg cs) hx β fun _=>0
  simp only [SV.den,Value.agg.injEq] at this
  rw [this]
theorem Qr {c:C}(h:∀p∈fE c,p):(c.den β).oneCell'=true:=by
 cases c with
 | v x=>cases x<;>first|rfl|exact (h False (by simp [fE])).elim
 | w x=>exact h (x.oneCell'=true) (by simp [fE])
 | _=>rfl
theorem ID {v:Value}(h:v.oneCell'=true):v.cells=#[v]:=by cases v<;>first|rfl|simp [Value.oneCell'] at h
theorem SV.rT {x:SV}(ht:x.wo=false)(h:∀p∈x.fE,p):(x.den β).cells=(x.cells.map (C.den β)).toArray/\∀v∈x.cells.map (C.den β),v.oneCell'=true:=by
 have b:∀c∈x.cells,(c.den β).oneCell'=true:=fun c a=>Qr fun p d=>h p (List.mem_flatMap.2 ⟨c,a,d⟩)
 refine ⟨?_,fun v e=>by obtain ⟨c,a,rfl⟩:=List.mem_map.1 e;exact b c a⟩
 cases x with
 | c c=>exact ID (b c (by simp [SV.cells]))
 | agg cs=>rfl
 | pU xs=>cases ht
theorem eO {g:Nat}{old cs:Array Value}{ty:TypeId}(h:w.heap[g]?=some (.cells old ty (0,0))):(w.setRow g cs).heap=w.heap.setIfInBounds g (.cells cs ty (0,0)):=by
 apply Array.ext_getElem?
 intro i
 by_cases e:i=g
 ·subst e
  rw [setRow_heap w i old cs ty (0,0) h,Array.getElem?_setIfInBounds,if_pos rfl,if_pos (aB h)]
 ·rw [setRow_other w g i cs e,Array.getElem?_setIfInBounds,if_neg (Ne.symm e)]
theorem gj {cs:List C}{vs:List Value}(h:lF cs=some vs):cs.map (C.den β)=vs/\cs.flatMap C.ids=[]:=by
 induction cs generalizing vs with
 | nil=>simp [lF] at h;subst h;exact ⟨rfl,rfl⟩
 | cons c r ih=>
  simp only [lF] at h
  split at h
  ·rename_i v ws e a
   simp only [Option.some.injEq] at h
   subst h
   obtain ⟨b,d⟩:=ih a
   have:c.den β=v/\c.ids=[]:=by cases c<;>simp_all [C.val?,C.den,C.ids]
   exact ⟨by simp [b,this.1],by simp [d,this.2]⟩
  ·cases h
theorem qQ {cs xs:List C}{o:Nat}:(setCells cs o xs).map (C.den β)=(cs.map (C.den β)).take o++xs.map (C.den β)++(cs.map (C.den β)).drop (o+xs.length):=by
 simp [setCells,List.map_take,List.map_drop]
theorem qP {cs xs:List C}{o s:Nat}(h:s∈(setCells cs o xs).flatMap C.ids):s∈cs.flatMap C.ids\/s∈xs.flatMap C.ids:=by
 obtain ⟨c,a,b⟩:=List.mem_flatMap.1 h
 simp only [setCells,List.mem_append] at a
 rcases a with (a|a)|a
 ·exact .inl (iD (List.mem_of_mem_take a) b)
 ·exact .inr (iD a b)
 ·exact .inl (iD (List.mem_of_mem_drop a) b)
theorem mG {vs xs:List Value}{o:Nat}(h:o+xs.length<=vs.length):cR vs o xs=vs.take o++xs++vs.drop (o+xs.length):=by
 unfold cR
 split
 ·rename_i x
  have:o<vs.length:=by simp at h;omega
  rw [List.set_eq_take_append_cons_drop,if_pos this]
  simp
 ·rfl
theorem SV.rU {x:SV}{s:Nat}(ht:x.wo=false):s∈x.cells.flatMap C.ids->s∈x.ids:=by
 cases x with
 | c c=>simp [SV.cells,SV.ids]
 | agg cs=>exact id
 | pU xs=>cases ht
theorem GD (hM:Mod n V0 bH β0 st β a w V){t:TypeId}{i:TI}(hi:lu P t=some i){av xv:SV}(hx:Live st xv){sc:List Prop}{s:Nat}{b:aR}
  (h:h_ st.boxes i av xv=.ue sc s b)(hsc:∀p∈sc,p) :
  ∃w',(Instr.storeAt t (av.den β) (xv.den β)).run P w=.ok () w'/\Mod n V0 bH β0 (st.box s b) β a w' V:=by
 obtain ⟨info,d,z,W,Y,Z,h4,U,-⟩:=aC hi
 unfold h_ at h
 split at h
 ·rename_i g o
  split at h
  ·rename_i k
   simp only [Bool.and_eq_true,beq_eq,Bool.not_eq_eq_eq_not] at k
   obtain ⟨hlen,y⟩:=k
   have core:∀(j:List Value)(ty:TypeId)(K:aR),w.heap[β g]?=some (.cells j.toArray ty (0,0))->(∀p∈xv.fE,p)->o+xv.cells.length<=j.length->K.ty=ty ->
     K.cs.den β=j.take o++xv.cells.map (C.den β)++j.drop (o+xv.cells.length) ->
     ∃w',(Instr.storeAt t (SV.den β (.c (.ptr g o))) (xv.den β)).run P w=.ok () w'/\w'.heap=w.heap.setIfInBounds (β g) (K.obj β)/\w'.os=w.os/\w'.tape=w.tape/\w'.output=w.output:=by
    intro j ty K f A hle M B
    obtain ⟨D,N⟩:=SV.rT (β:=β) y A
    have key:=run_storeCells_at (P:=P) (β g) o ty (xv.cells.map (C.den β)) 0 j.toArray w f (by simpa using hle) N
    refine ⟨w.setRow (β g) (j.take o++xv.cells.map (C.den β)++j.drop (o+xv.cells.length)).toArray,?_,?_⟩
    ·generalize xv.den β=v at D
     show (Instr.storeAt t (.pointer (some ⟨β g,o,none⟩)) v).run P w=_
     simp only [Instr.storeAt,Instr.sureAddr,Sem.run_bind,Sem.run_pure,Result.andThen_ok,storeVar,aL W,D]
     simp [hlen,U]
     simpa [hlen,U] using key
    ·exact ⟨by rw [eO f,aR.obj,B,M],rfl,rfl,rfl⟩
   split at h
   ·rename_i cs ty q
    split at h
    ·rename_i O
     have O:=Nat.le_of_ble_eq_true O
     simp only [Q.ue.injEq] at h;obtain ⟨rfl,rfl,rfl⟩:=h
     have f:=hM.row q df
     obtain ⟨w',E,F,G,H,I⟩:=core _ _ ⟨.lit (setCells cs o xv.cells),ty⟩ f hsc (by simpa [Cells.den,hlen] using O) rfl (by simp only [Cells.den];exact qQ)
     refine ⟨w',E,hM.ue q df ?_ F G H I⟩
     intro L l
     rcases qP l with R|R
     ·exact hM.Aa _ _ q L R
     ·exact hx L (SV.rU y R)
    ·cases h
   ·rename_i x ty q
    split at h
    ·rename_i xs r
     simp only [Q.ue.injEq] at h;obtain ⟨rfl,rfl,rfl⟩:=h
     have f:=hM.row q cz
     obtain ⟨m,S⟩:=gj (β:=β) r
     have hle:o+i.size<=x.length:=hsc _ (by simp)
     have u:xs.length=i.size:=by rw [←m,List.length_map,hlen]
     obtain ⟨w',E,F,G,H,I⟩:=core _ _ ⟨.row (cR x o xs),ty⟩ f (fun p T=>hsc p (List.mem_append_left _ T)) (by simpa [Cells.den,hlen] using hle) rfl (by
      simp only [Cells.den];rw [mG (by omega),m,hlen,u])
     exact ⟨w',E,hM.ue q cz (by intro L l;simp [Cells.ids] at l) F G H I⟩
    ·cases h
   ·rename_i x ty q
    split at h
    ·cases h
    rename_i X
    split at h
    ·rename_i xs r
     simp only [Q.ue.injEq] at h;obtain ⟨rfl,rfl,rfl⟩:=h
     obtain ⟨m,S⟩:=gj (β:=β) r
     have hle:o+i.size<=x.length:=hsc _ (by simp)
     have J:aR.live ⟨.aW x,ty⟩:=fY fun e=>by
      subst e
      simp at hle
      exact X (by rw [hle.2];rfl)
     have f:=hM.row q J
     have u:xs.length=i.size:=by rw [←m,List.length_map,hlen]
     obtain ⟨w',E,F,G,H,I⟩:=core _ _ ⟨.aW (cR x o xs),ty⟩ f (fun p T=>hsc p (List.mem_append_left _ T)) (by simpa [Cells.den,hlen] using hle) rfl (by
      simp only [Cells.den];rw [mG (by omega),m,hlen,u])
     exact ⟨w',E,hM.ue q J (by intro L l;simp [Cells.ids] at l) F G H I⟩
    ·cases h
   ·cases h
  ·cases h
 ·cases h
end Go.bM
namespace Go.bM
variable {P:Program} {T:dA} {n:Nat} {V0:View} {bH:Fw} {β0:Nat->Nat} {st:St} {β:Nat->Nat} {a:Act} {w:World} {V:View}
theorem IQ (xs:List Value):∀(cs:Array Value)(off:Nat),off+xs.length<=cs.size ->
  (xs.toArray.zipIdx.foldl (fun cs (p:Value×Nat)=>cs.setIfInBounds (off+p.2) p.1) cs)=(cs.toList.take off++xs++cs.toList.drop (off+xs.length)).toArray:=by
 have gen:∀(xs:List Value)(k:Nat)(cs:List Value)(off:Nat),off+k+xs.length<=cs.length ->
   (xs.zipIdx k).foldl (fun (cs:Array Value) (p:Value×Nat)=>cs.setIfInBounds (off+p.2) p.1) cs.toArray=(cs.take (off+k)++xs++cs.drop (off+k+xs.length)).toArray:=by
  intro xs
  induction xs with
  | nil=>intro k cs off _;simp
  | cons x r ih=>
   intro k cs off h
   simp only [List.length_cons] at h
   simp only [List.zipIdx_cons,List.foldl_cons,List.setIfInBounds_toArray]
   rw [ih (k+1) (cs.set (off+k) x) off (by simp;omega)]
   congr 1
   have a:off+k<cs.length:=by omega
   rw [List.set_eq_take_append_cons_drop,if_pos a]
   have b:(cs.take (off+k)++x::cs.drop (off+k+1)).take (off+(k+1))=cs.take (off+k)++[x]:=by
    rw [List.take_append,List.take_of_length_le (by simp;omega),List.length_take,Nat.min_eq_left (by omega),show off+(k+1)-(off+k)=1 from by omega]
    simp
   have c:(cs.take (off+k)++x::cs.drop (off+k+1)).drop (off+(k+1)+r.length)=cs.drop (off+k+(r.length+1)):=by
    rw [List.drop_append,List.drop_of_length_le (by simp;omega),List.length_take,Nat.min_eq_left (by omega),show off+(k+1)+r.length-(off+k)=r.length+1 from by omega]
    simp only [List.nil_append,List.drop_succ_cons,List.drop_drop]
    congr 1;omega
   rw [b,c]
   simp
 intro cs off h
 have:=gen xs 0 cs.toList off (by simpa using h)
 simpa [←Array.foldl_toList] using this
theorem ot {place:Nat->Option (Nat×Nat)}:∀(ps:List (Nat×SV))(cells out:List C),oS place cells ps=some out ->
  (∀x∈ps,∀v:C,v∈x.2.cells->∀p∈fE v,p) ->
  Instr.fill place (cells.map (C.den β)).toArray (ps.map fun x=>(x.1,x.2.den β))=some (out.map (C.den β)).toArray /\
  (∀s∈out.flatMap C.ids,s∈cells.flatMap C.ids\/∃x∈ps,s∈x.2.ids)
 | [],cells,out,h,_=>by
  simp only [oS,Option.some.injEq] at h;subst h
  exact ⟨rfl,fun s hs=>.inl hs⟩
 | (i,x)::r,cells,out,h,hone=>by
  simp only [oS] at h
  split at h
  ·cases h
  ·rename_i off size hp
   split at h
   ·rename_i hc
    simp only [Bool.and_eq_true,beq_eq,Bool.not_eq_eq_eq_not] at hc
    obtain ⟨⟨hl,hle⟩,hnt⟩:=hc
    have hle:=Nat.le_of_ble_eq_true hle
    have hnt:x.wo=false:=by simpa using hnt
    have e:∀p∈x.fE,p:=fun p hp=>by
     obtain ⟨v,f,hp⟩:=List.mem_flatMap.1 hp
     exact hone (i,x) (by simp) v f p hp
    obtain ⟨b,-⟩:=SV.rT (β:=β) hnt e
    obtain ⟨g,j⟩:=ot r _ _ h (fun y c=>hone y (List.mem_cons_of_mem _ c))
    refine ⟨?_,?_⟩
    ·simp only [List.map_cons,Instr.fill,hp]
     rw [if_neg (by rw [b];simp [hl];omega)]
     rw [b]
     have:=IQ (x.cells.map (C.den β)) (cells.map (C.den β)).toArray off (by simpa [hl] using hle)
     rw [this]
     rw [←g,qQ]
     simp
    ·intro s hs
     rcases j s hs with d|⟨y,c,d⟩
     ·rcases qP d with a|a
      ·exact .inl a
      ·exact .inr ⟨(i,x),by simp,SV.rU hnt a⟩
     ·exact .inr ⟨y,List.mem_cons_of_mem _ c,d⟩
   ·cases h
theorem ki (hM:Mod n V0 bH β0 st β a w V):∀(l:List (Nat×Operand))(ps:List (Nat×SV)),partsOf st.aZ l=some ps ->
  (l.map fun x=>(x.1,a.eval x.2))=(ps.map fun x=>(x.1,x.2.den β))/\∀x∈ps,Live st x.2
 | [],ps,h=>by simp only [partsOf,Option.some.injEq] at h;subst h;exact ⟨rfl,fun x hx=>by cases hx⟩
 | (i,o)::r,ps,h=>by
  simp only [partsOf] at h
  split at h
  ·rename_i x l hx hl
   simp only [Option.some.injEq] at h;subst h
   obtain ⟨h1,h2⟩:=ki hM r l hl
   refine ⟨by simp [h1,hM.eval hx],fun y b=>?_⟩
   rcases List.mem_cons.1 b with rfl|b
   ·exact hM.live hx
   ·exact h2 y b
  ·cases h
theorem f_ (hM:Mod n V0 bH β0 st β a w V):∀(l:List Operand)(xs:List SV),bZ st.aZ l=some xs ->
  l.map a.eval=xs.map (SV.den β)/\∀x∈xs,Live st x
 | [],xs,h=>by simp only [bZ,Option.some.injEq] at h;subst h;exact ⟨rfl,fun x hx=>by cases hx⟩
 | o::r,xs,h=>by
  simp only [bZ] at h
  split at h
  ·rename_i x l hx hl
   simp only [Option.some.injEq] at h;subst h
   obtain ⟨h1,h2⟩:=f_ hM r l hl
   refine ⟨by simp [h1,hM.eval hx],fun y b=>?_⟩
   rcases List.mem_cons.1 b with rfl|b
   ·exact hM.live hx
   ·exact h2 y b
  ·cases h
theorem mN (hT:dA.ok P T):∀(gs:List Field)(pl:List (Nat×Nat)),fW T (gs.map fun f=>(f.type,f.offset))=some pl ->
  ∀w:World,(gs.mapM fun f:Field=>do pure (f.offset,←sizeOf f.type)).run P w=.ok pl w
 | [],pl,h,w=>by simp only [List.map_nil,fW,Option.some.injEq] at h;subst h;simp
 | f::r,pl,h,w=>by
  simp only [List.map_cons,fW] at h
  split at h
  ·rename_i i l hi hl
   simp only [Option.some.injEq] at h;subst h
   obtain ⟨info,d,z,h1,h2,h3,h4,h5,-⟩:=aC (hT _ _ hi)
   have:=mN hT r l hl w
   simp only [bind_pure_comp] at this
   simp [List.mapM_cons,aL h1,this,h5]
  ·cases h
theorem eT {i:TI}{z:Value}(h:i.zero=z.cells.toList.map C.ofConst):(i.zero.map (C.den β)).toArray=z.cells/\i.zero.flatMap C.ids=[]:=by
 rw [h]
 exact ⟨by rw [Eb],B8 _⟩
theorem Ci {ps:List (Nat×SV)}(h:∀p∈ps.flatMap (fun x=>x.2.fE),p):∀x∈ps,∀v:C,v∈x.2.cells->∀p∈fE v,p:=
 fun x a v b p c=>h p (List.mem_flatMap.2 ⟨x,a,List.mem_flatMap.2 ⟨v,b,c⟩⟩)
theorem parts_eq {parts:Array (Nat×Operand)}{ps:List (Nat×SV)}(h:(parts.toList.map fun x=>(x.1,a.eval x.2))=(ps.map fun x=>(x.1,x.2.den β))) :
  (parts.map fun x=>(x.1,a.eval x.2)).toList=ps.map fun x=>(x.1,x.2.den β):=by rw [Array.toList_map];exact h
theorem BA (hT:dA.ok P T)(hM:Mod n V0 bH β0 st β a w V){t:TypeId}{i:TI}(hi:lu P t=some i){fs:List (TypeId×Nat)}(hk:i.k=.struct fs)
  {parts:Array (Nat×Operand)}{ps:List (Nat×SV)}(hp:partsOf st.aZ parts.toList=some ps){pl:List (Nat×Nat)}(hpl:fW T fs=some pl)
  {cs:List C}(hf:oS (fun j=>pl[j]?) i.zero ps=some cs)(hsc:∀p∈ps.flatMap (fun x=>x.2.fE),p) :
  (Instr.build t (parts.map fun x=>(x.1,a.eval x.2))).run P w=.ok (SV.den β (.agg cs)) w/\Live st (.agg cs):=by
 obtain ⟨info,d,z,b,c,e,g,A,B,l⟩:=aC hi
 obtain ⟨m,o⟩:=ki hM _ _ hp
 rw [g] at hk
 obtain ⟨gs,rfl,rfl⟩:=jB hk
 obtain ⟨q,r⟩:=eT (β:=β) l
 obtain ⟨f1,f2⟩:=ot (β:=β) _ _ _ hf (Ci hsc)
 have hm:=mN hT gs.toList pl hpl w
 refine ⟨?_,?_⟩
 ·have u:(gs.mapM fun f:Field=>do pure (f.offset,←sizeOf f.type)).run P w=.ok pl.toArray w:=by
   rw [Array.mapM_eq_mapM_toList]
   simp only [Sem.run_map,hm,Result.andThen_ok]
  simp only [Instr.build,Sem.run_bind,jk b e,Result.andThen_ok,ao c,u]
  rw [parts_eq m,←q]
  have:(fun j:Nat=>pl.toArray[j]?)=fun j:Nat=>pl[j]?:=by funext j;simp
  rw [this,f1]
  rfl
 ·intro s v
  rcases f2 s v with h|⟨x,y,h⟩
  ·rw [r] at h;cases h
  ·exact o x y s h
theorem Dm (hT:dA.ok P T)(hM:Mod n V0 bH β0 st β a w V){t:TypeId}{i:TI}(hi:lu P t=some i){m:Nat}{e:TypeId}(hk:i.k=.arr m e)
  {parts:Array (Nat×Operand)}{ps:List (Nat×SV)}(hp:partsOf st.aZ parts.toList=some ps){ei:TI}(he:aA T e=some ei)
  {cs:List C}(hf:oS (fun j=>some (j*ei.size,ei.size)) i.zero ps=some cs)(hsc:∀p∈ps.flatMap (fun x=>x.2.fE),p) :
  (Instr.build t (parts.map fun x=>(x.1,a.eval x.2))).run P w=.ok (SV.den β (.agg cs)) w/\Live st (.agg cs):=by
 obtain ⟨info,d,z,b,c,f,g,D,E,l⟩:=aC hi
 obtain ⟨F,G,H,o,I,J,K,q,L,M⟩:=aC (hT _ _ he)
 obtain ⟨r,u⟩:=ki hM _ _ hp
 rw [g] at hk
 obtain rfl:=nt hk
 obtain ⟨v,y⟩:=eT (β:=β) l
 obtain ⟨f1,f2⟩:=ot (β:=β) _ _ _ hf (Ci hsc)
 refine ⟨?_,?_⟩
 ·simp only [Instr.build,Sem.run_bind,jk b f,Result.andThen_ok,ao c,aL o]
  rw [parts_eq r,←v,←q,f1]
  rfl
 ·intro s A
  rcases f2 s A with h|⟨x,B,h⟩
  ·rw [y] at h;cases h
  ·exact u x B s h
theorem Ji {α:Type}[Inhabited α](zs:List α)(m:Nat):((List.range (m*zs.length)).map fun j=>zs.toArray[j%zs.length]!)=(List.replicate m zs).flatten:=by
 induction m with
 | zero=>simp
 | succ m ih=>
  rw [List.replicate_succ',List.flatten_append,←ih,Nat.succ_mul,List.range_add,List.map_append]
  congr 1
  simp only [List.flatten_cons,List.flatten_nil,List.append_nil,List.map_map]
  apply List.ext_getElem?
  intro j
  rw [List.getElem?_map]
  by_cases a:j<zs.length
  ·rw [List.getElem?_range a]
   simp only [Option.map_some,Function.comp]
   rw [Nat.add_comm,Nat.add_mul_mod_self_right,Nat.mod_eq_of_lt a]
   simp [a]
  ·rw [List.getElem?_eq_none (by simp;omega),List.getElem?_eq_none (by omega)];rfl
theorem NV (m:Nat)(zs:List C):(rep m zs).map (C.den β)=(List.replicate m (zs.map (C.den β))).flatten:=by
 unfold rep;rw [List.map_flatten,List.map_replicate]
theorem NU {m:Nat}{zs:List C}(h:zs.flatMap C.ids=[]):(rep m zs).flatMap C.ids=[]:=by
 unfold rep
 induction m with
 | zero=>rfl
 | succ m ih=>rw [List.replicate_succ,List.flatten_cons,List.flatMap_append,h,ih];rfl
theorem rG (m:Nat)(zs:List Value):pT m zs=(List.replicate m zs).flatten:=by
 unfold pT
 split
 ·rename_i z
  induction m with
  | zero=>rfl
  | succ m ih=>rw [List.replicate_succ,List.replicate_succ,List.flatten_cons,ih];rfl
 ·rfl
theorem rL {z:Value}{m:Nat}(k:Nat)(hk:k=m*z.cells.size) :
  ((Array.range k).map fun j=>z.cells[j%z.cells.size]!)=((List.replicate m z.cells.toList).flatten).toArray:=by
 apply Array.ext'
 rw [Array.toList_map,Array.toList_range]
 subst hk
 have:=Ji z.cells.toList m
 simpa using this
theorem vt {z:Value}{m:Nat}(h0:m*z.cells.size=0):(List.replicate m z.cells.toList).flatten=[]:=by
 rcases Nat.mul_eq_zero.1 h0 with h|h
 ·subst h;rfl
 ·have:z.cells.toList=[]:=by
   have:z.cells.toList.length=0:=by simpa using h
   exact List.length_eq_zero_iff.1 this
  rw [this];simp
theorem LH:Array.range 0=#[]:=rfl
theorem vy (hT:dA.ok P T)(hM:Mod n V0 bH β0 st β a w V){t:TypeId}{i:TI}(hi:lu P t=some i){e:TypeId}(hk:i.k=.slice e){len:Nat}
  {parts:Array (Nat×Operand)}{ps:List (Nat×SV)}(hp:partsOf st.aZ parts.toList=some ps){ei:TI}(he:aA T e=some ei)
  (hlen:len*ei.size<=16777216)(hzl:ei.zero.length=ei.size)(hz0:ei.size≠0)
  {cs:List C}(hf:oS (fun j=>some (j*ei.size,ei.size)) (rep len ei.zero) ps=some cs)(hsc:∀p∈ps.flatMap (fun x=>x.2.fE),p) :
  (Instr.buildSlice t len (parts.map fun x=>(x.1,a.eval x.2))).run P w=.ok (.slice (some ⟨w.heap.size,0,none⟩) len len) (w.alloc (aR.obj β ⟨.lit cs,e⟩)) /\
  ∀s∈cs.flatMap C.ids,∃b,st.boxes s=some b:=by
 obtain ⟨info,d,z,L,A,M,B,N,O,Q⟩:=aC hi
 obtain ⟨g,R,l,u,S,D,U,o,W,E⟩:=aC (hT _ _ he)
 obtain ⟨v,F⟩:=ki hM _ _ hp
 rw [B] at hk
 obtain rfl:=aT hk
 obtain ⟨y,G⟩:=eT (β:=β) E
 obtain ⟨f1,f2⟩:=ot (β:=β) _ _ _ hf (Ci hsc)
 have f:l.cells.size=g.size:=by rw [←y];simp [hzl,o]
 refine ⟨?_,?_⟩
 ·have c:((List.replicate len l.cells.toList).flatten).toArray=((rep len ei.zero).map (C.den β)).toArray:=by
   rw [NV,←y]
  have H:¬len*g.size>2^24:=by rw [←o];simpa using hlen
  simp only [Instr.buildSlice,Sem.run_bind,ao A,Result.andThen_ok,aL u,Sem.run_ite,if_neg H]
  by_cases q:len*g.size=0
  ·have I:=vt (z:=l) (m:=len) (by rw [f];exact q)
   rw [I] at c
   simp only [q,if_true,Sem.run_pure,Result.andThen_ok,LH,Array.map_empty,←c] at f1 ⊢
   rw [parts_eq v,←o]
   have r:Instr.fill (fun j=>some (j*ei.size,ei.size)) #[] (ps.map fun x=>(x.1,x.2.den β))=some (cs.map (C.den β)).toArray:=f1
   rw [r]
   simp only [Sem.run_bind,newRow,run_newObj,Result.andThen_ok,Sem.run_pure]
   rfl
  ·simp only [q,if_false,jk u D,Sem.run_pure,Result.andThen_ok]
   rw [rL (z:=l) (m:=len) (len*g.size) (by rw [f]),c,parts_eq v,←o,f1]
   simp only [Sem.run_bind,newRow,run_newObj,Result.andThen_ok,Sem.run_pure]
   rfl
 ·intro s J
  rcases f2 s J with h|⟨x,K,h⟩
  ·rw [NU G] at h;cases h
  ·exact F x K s h
theorem Bo {x:Int}(h0:0<=x)(h1:x<9223372036854775808):i64.wrap x=x:=by
 unfold IntKind.wrap IntKind.bits IntKind.signed
 simp
 omega
theorem y_ (hT:dA.ok P T){t:TypeId}{i:TI}(hi:lu P t=some i){e:TypeId}(hk:i.k=.slice e){ei:TI}(he:aA T e=some ei)
  {k1 k2:IntKind}{l c:Int}(hb:ei.bytes≠0)(hs:ei.size≠0){zs:List Value}(hz:lF ei.zero=some zs)(hzl:ei.size=zs.length)
  (c1:0<=l)(c2:l<=c)(c3:(ei.bytes:Int)*c<=140737488355328) :
  (Instr.makeSlice t (.int k1 l) (.int k2 c)).run P w=.ok (.slice (some ⟨w.heap.size,0,none⟩) l.toNat c.toNat) (w.alloc (aR.obj β ⟨.row (pT c.toNat zs),e⟩)):=by
 obtain ⟨info,d,z,B,p,C,q,D,E,F⟩:=aC hi
 obtain ⟨f,G,g,h,H,r,I,s,u,v⟩:=aC (hT _ _ he)
 rw [q] at hk
 obtain rfl:=aT hk
 obtain ⟨n,J⟩:=eT (β:=β) v
 obtain ⟨d1,-⟩:=gj (β:=β) hz
 have b:g.cells.size=f.size:=by rw [←n,d1];simp [←hzl,s]
 have o:c<=140737488355328:=by
  have:1<=(ei.bytes:Int):=by omega
  have:=Int.mul_le_mul_of_nonneg_right this (by omega:0<=c)
  omega
 have x:i64.wrap l=l:=Bo c1 (by omega)
 have y:i64.wrap c=c:=Bo (by omega) (by omega)
 rw [u] at c3
 have t1:(decide (c<0)||decide ((f.bytes:Int)*c>2^48))=false:=by
  rw [show ((2:Int)^48)=281474976710656 from by decide]
  simp;omega
 have t2:decide (l<0)=false:=by simp;omega
 have t3:decide (l>c)=false:=by simp;omega
 have a:(List.replicate c.toNat g.cells.toList).flatten=pT c.toNat zs:=by rw [rG,←d1,←n]
 simp only [Instr.makeSlice,Sem.run_bind,ao p,Result.andThen_ok,kF h,asInt,asIntOf,Sem.run_pure,x,y,t1,t2,t3,Bool.or_self,Bool.false_eq_true,if_false,run_askRoom,aL h,Sem.run_ite]
 by_cases j:c.toNat*f.size=0
 ·have A:=vt (z:=g) (m:=c.toNat) (by rw [b];exact j)
  rw [A] at a
  simp only [j,if_true,Sem.run_bind,Sem.run_pure,Result.andThen_ok,LH,Array.map_empty,newRow,run_newObj,←a]
  rfl
 ·simp only [j,if_false,jk h r,Result.andThen_ok]
  rw [rL (z:=g) (m:=c.toNat) (c.toNat*f.size) (by rw [b]),a]
  simp only [Sem.run_bind,newRow,run_newObj,Result.andThen_ok,Sem.run_pure]
  rfl
end Go.bM
namespace Go.bM
variable {P:Program} {T:dA} {n:Nat} {V0:View} {bH:Fw} {β0:Nat->Nat} {st:St} {β:Nat->Nat} {a:Act} {w:World} {V:View}
theorem DS {gs:Array Field}{f ft off:Nat}(h:(gs.toList.map fun f=>(f.type,f.offset))[f]?=some (ft,off)):∃Mw,gs[f]?=some Mw/\Mw.type=ft/\Mw.offset=off:=by
 rw [List.getElem?_map] at h
 cases hg:gs.toList[f]? with
 | none=>rw [hg] at h;cases h
 | some Mw=>
  rw [hg] at h
  simp only [Option.map_some,Option.some.injEq,Prod.mk.injEq] at h
  exact ⟨Mw,by simpa using hg,h.1,h.2⟩
theorem tF (hT:dA.ok P T){t:TypeId}{i:TI}(hi:lu P t=some i){fs:List (TypeId×Nat)}(hk:i.k=.struct fs){f ft off:Nat}(hf:fs[f]?=some (ft,off))
  {fi:TI}(hfi:aA T ft=some fi)(hs:fi.size≠0)(ad:Addr):(Instr.fieldAt t (.pointer (some ad)) f).run P w=.ok (.pointer (some (ad.add off))) w:=by
 obtain ⟨info,d,z,g,a,h,b,j,l,m⟩:=aC hi
 obtain ⟨n,fd,o,c,p,q,r,s,u,v⟩:=aC (hT _ _ hfi)
 rw [b] at hk
 obtain ⟨gs,rfl,rfl⟩:=jB hk
 obtain ⟨x,e,rfl,rfl⟩:=DS hf
 simp only [Instr.fieldAt,Sem.run_bind,ao a,Result.andThen_ok,e,Instr.sureAddr,Sem.run_pure,fieldPlace,aL c]
 rw [Sem.run_ite,if_neg (by omega)]
 rfl
theorem Ev {t:TypeId}{i:TI}(hi:lu P t=some i)(cs:List C)(off:Nat) :
  (rJ i.k=true->(part t (cs.map (C.den β)).toArray off).run P w=.ok (SV.den β (.agg ((cs.drop off).take i.size))) w) /\
  (∀c,rJ i.k=false->cs[off]?=some c->(part t (cs.map (C.den β)).toArray off).run P w=.ok (c.den β) w):=by
 obtain ⟨info,d,z,f,b,j,e,g,l,m⟩:=aC hi
 refine ⟨fun a=>?_,fun c a h=>?_⟩
 ·rw [e] at a
  simp only [part,Sem.run_bind,ia b,Result.andThen_ok,a,if_true,aL f,Sem.run_pure,SV.den]
  congr 2
  apply Array.ext'
  rw [←g]
  simp [List.map_take,List.map_drop,List.extract,List.take_drop]
 ·rw [e] at a
  simp [part,ia b,a,h]
theorem IM (hT:dA.ok P T){t:TypeId}{i:TI}(hi:lu P t=some i){fs:List (TypeId×Nat)}(hk:i.k=.struct fs){f ft off:Nat}(hf:fs[f]?=some (ft,off))
  {fi:TI}(hfi:aA T ft=some fi){cs:List C} :
  (rJ fi.k=true->(Instr.field t (SV.den β (.agg cs)) f).run P w=.ok (SV.den β (.agg ((cs.drop off).take fi.size))) w) /\
  (∀c,rJ fi.k=false->cs[off]?=some c->(Instr.field t (SV.den β (.agg cs)) f).run P w=.ok (c.den β) w):=by
 obtain ⟨info,d,z,n,g,o,j,p,q,s⟩:=aC hi
 rw [j] at hk
 obtain ⟨gs,rfl,rfl⟩:=jB hk
 obtain ⟨b,l,rfl,rfl⟩:=DS hf
 have e:=Ev (w:=w) (β:=β) (hT _ _ hfi) cs b.offset
 have a:∀r,(part b.type (cs.map (C.den β)).toArray b.offset).run P w=r->(Instr.field t (SV.den β (.agg cs)) f).run P w=r:=by
  intro r a
  simp only [Instr.field,Sem.run_bind,ao g,Result.andThen_ok,l,asAgg,SV.den,Sem.run_pure,a]
 exact ⟨fun h=>a _ (e.1 h),fun c h m=>a _ (e.2 c h m)⟩
theorem fV (k:IntKind)(x:Int):(asIntOf (.int k x)).run P w=.ok (k,x) w:=rfl
theorem wY (hT:dA.ok P T){t:TypeId}{i:TI}(hi:lu P t=some i){x ix:SV}{sc:List Prop}{v:SV}(h:hZ T i x ix=.ret sc v)(hsc:∀p∈sc,p) :
  (Instr.indexAt t (x.den β) (ix.den β)).run P w=.ok (v.den β) w/\∀s∈v.ids,s∈x.ids:=by
 obtain ⟨info,d,z,J,l,K,n,L,M,N⟩:=aC hi
 unfold hZ at h
 split at h
 ·rename_i k m
  split at h
  ·rename_i e f
   rw [n] at f
   obtain rfl:=aT f
   split at h
   ·rename_i q he
    obtain ⟨r,u,y,g,A,B,D,j,E,F⟩:=aC (hT _ _ he)
    split at h
    ·rename_i G len c
     simp only [Q.ret.injEq] at h;obtain ⟨rfl,rfl⟩:=h
     have H:=hsc (G.isSome=true) (by simp)
     have a:=hsc (0<=m/\m<(len:Int)) (by simp)
     obtain ⟨p,rfl⟩:=Option.isSome_iff_exists.1 H
     refine ⟨?_,fun s b=>b⟩
     simp [Instr.indexAt,SV.den,C.den,fV,ao l,a,aL g,ag,j]
    ·rename_i s o len c
     simp only [Q.ret.injEq] at h;obtain ⟨rfl,rfl⟩:=h
     have a:=hsc (0<=m/\m<(len:Int)) (by simp)
     refine ⟨?_,fun s b=>by simpa [SV.ids,C.ids] using b⟩
     simp [Instr.indexAt,SV.den,C.den,fV,ao l,a,aL g,gF,j]
    ·rename_i s len c
     simp only [Q.ret.injEq] at h;obtain ⟨rfl,rfl⟩:=h
     have a:=hsc (0<=m/\m<(len:Int)) (by simp)
     have O:=hsc (len<=c) (by simp)
     refine ⟨?_,fun s b=>by simpa [SV.ids,C.ids] using b⟩
     have I:mA (β s) c=some ⟨β s,0,none⟩:=by unfold mA;rw [if_neg (by omega)]
     simp [Instr.indexAt,SV.den,C.den,fV,ao l,a,aL g,gF,j,I]
    ·cases h
   ·cases h
  ·rename_i len e f
   rw [n] at f
   obtain rfl:=nt f
   split at h
   ·rename_i q he
    obtain ⟨r,u,y,g,A,B,D,j,E,F⟩:=aC (hT _ _ he)
    split at h
    ·rename_i s o
     simp only [Q.ret.injEq] at h;obtain ⟨rfl,rfl⟩:=h
     have a:=hsc (0<=m/\m<(len:Int)) (by simp)
     refine ⟨?_,fun s b=>by simpa [SV.ids,C.ids] using b⟩
     simp [Instr.indexAt,Instr.sureAddr,SV.den,C.den,fV,ao l,a,aL g,gF,j]
    ·cases h
   ·cases h
  ·cases h
 ·cases h
theorem Iq {k:IntKind}{x:Int}{y:Nat}(code:BoundsCode)(h:0<=x/\x<=(y:Int)):(Instr.sliceBound (.int k x) y code).run P w=.ok x.toNat w:=by
 simp [Instr.sliceBound,fV,h]
theorem iG {len c:Nat}{lo hi mx:Option SV}{sc:List Prop}{l:Option Nat}{h m:Nat}(hq:oz len c lo hi mx=some (sc,l,h,m))(hsc:∀p∈sc,p) :
  (Instr.sliceBounds true len c (lo.map (SV.den β)) (hi.map (SV.den β)) (mx.map (SV.den β))).run P w=.ok (l.getD 0,h,m) w:=by
 unfold oz at hq
 cases ht:NL c mx with
 | none=>rw [ht] at hq;cases hq
 | some t=>
  obtain ⟨g,a⟩:=t
  rw [ht] at hq
  dsimp only at hq
  cases hh:Ly len a hi mx with
  | none=>rw [hh] at hq;cases hq
  | some t=>
   obtain ⟨i,b⟩:=t
   rw [hh] at hq
   dsimp only at hq
   cases hl:Qu b lo with
   | none=>rw [hl] at hq;cases hq
   | some t=>
    obtain ⟨j,f⟩:=t
    rw [hl] at hq
    simp only [Option.some.injEq,Prod.mk.injEq] at hq
    obtain ⟨rfl,rfl,rfl,rfl⟩:=hq
    have hm:((mx=none/\a=c)\/∃k x,mx=some (.c (.v (.int k x)))/\a=x.toNat/\(0<=x/\x<=(c:Int))):=by
     unfold NL at ht
     split at ht
     ·simp only [Option.some.injEq,Prod.mk.injEq] at ht;exact .inl ⟨rfl,ht.2.symm⟩
     ·rename_i k x
      simp only [Option.some.injEq,Prod.mk.injEq] at ht
      obtain ⟨rfl,rfl⟩:=ht
      exact .inr ⟨k,x,rfl,rfl,hsc _ (by simp)⟩
     ·cases ht
    have d:((hi=none/\mx=none/\b=len)\/∃k x,hi=some (.c (.v (.int k x)))/\b=x.toNat/\(0<=x/\x<=(a:Int))):=by
     unfold Ly at hh
     split at hh
     ·rename_i k x
      simp only [Option.some.injEq,Prod.mk.injEq] at hh
      obtain ⟨rfl,rfl⟩:=hh
      exact .inr ⟨k,x,rfl,rfl,hsc _ (by simp)⟩
     ·simp only [Option.some.injEq,Prod.mk.injEq] at hh;exact .inl ⟨rfl,rfl,hh.2.symm⟩
     ·cases hh
    have e:((lo=none/\f=none)\/∃k x,lo=some (.c (.v (.int k x)))/\f=some x.toNat/\(0<=x/\x<=(b:Int))):=by
     unfold Qu at hl
     split at hl
     ·simp only [Option.some.injEq,Prod.mk.injEq] at hl;exact .inl ⟨rfl,hl.2.symm⟩
     ·rename_i k x
      simp only [Option.some.injEq,Prod.mk.injEq] at hl
      obtain ⟨rfl,rfl⟩:=hl
      exact .inr ⟨k,x,rfl,rfl,hsc _ (by simp)⟩
     ·cases hl
    clear ht hh hl hsc
    rcases hm with ⟨rfl,rfl⟩|⟨n,o,rfl,rfl,b1⟩<;>rcases d with ⟨rfl,hx,rfl⟩|⟨k2,x2,rfl,rfl,b2⟩<;>rcases e with ⟨rfl,rfl⟩|⟨k3,x3,rfl,rfl,b3⟩ <;>
     (try cases hx) <;>
     simp only [Instr.sliceBounds,Option.map_none,Option.map_some,SV.den,C.den,Sem.run_bind,Sem.run_pure,Result.andThen_ok,Option.getD_none,Option.getD_some,Option.isSome_none,Option.isSome_some,if_true,Bool.false_eq_true,if_false] <;>
     (repeat (rw [Iq _ (by assumption)];simp only [Result.andThen_ok]))
theorem GC (hT:dA.ok P T){t:TypeId}{i:TI}(hi:lu P t=some i){e:TypeId}(hk:i.k=.slice e){ei:TI}(he:aA T e=some ei){x:SV}{lo hi' mx:Option SV}{sc:List Prop}{v:SV}
  (h:sK ei.size x lo hi' mx=.ret sc v)(hsc:∀p∈sc,p) :
  (Instr.sliceAt t (x.den β) (lo.map (SV.den β)) (hi'.map (SV.den β)) (mx.map (SV.den β))).run P w=.ok (v.den β) w/\∀s∈v.ids,s∈x.ids:=by
 obtain ⟨info,d,z,y,g,A,u,B,D,E⟩:=aC hi
 obtain ⟨F,G,H,j,I,J,K,r,L,M⟩:=aC (hT _ _ he)
 rw [u] at hk
 obtain rfl:=aT hk
 have b:∀p:OA,p.map (fun x=>x.add 0)=p:=by intro p;cases p<;>simp [Addr.add]
 unfold sK at h
 split at h
 ·rename_i N len c
  split at h
  ·rename_i n q m a
   simp only [Q.ret.injEq] at h;obtain ⟨rfl,rfl⟩:=h
   have:=iG (P:=P) (w:=w) (β:=β) a hsc
   refine ⟨?_,fun s f=>f⟩
   simp only [Instr.sliceAt,Instr.slice,SV.den,C.den,Sem.run_bind,ao g,Result.andThen_ok,this,aL j,Sem.run_pure,Option.getD_none,Nat.zero_mul,Nat.sub_zero,b,ite_self]
  ·rename_i n l q m a
   simp only [Q.ret.injEq] at h;obtain ⟨rfl,rfl⟩:=h
   have:=iG (P:=P) (w:=w) (β:=β) a hsc
   refine ⟨?_,fun s f=>f⟩
   simp only [Instr.sliceAt,Instr.slice,SV.den,C.den,Sem.run_bind,ao g,Result.andThen_ok,this,aL j,Sem.run_pure,Option.getD_some,r]
   rfl
  ·cases h
 ·rename_i s o len c
  split at h
  ·rename_i n q m a
   simp only [Q.ret.injEq] at h;obtain ⟨rfl,rfl⟩:=h
   have:=iG (P:=P) (w:=w) (β:=β) a hsc
   refine ⟨?_,fun s f=>by simpa [SV.ids,C.ids] using f⟩
   simp only [Instr.sliceAt,Instr.slice,SV.den,C.den,Sem.run_bind,ao g,Result.andThen_ok,this,aL j,Sem.run_pure,Option.getD_none,Nat.zero_mul,Nat.sub_zero,b,ite_self]
  ·rename_i n l q m a
   simp only [Q.ret.injEq] at h;obtain ⟨rfl,rfl⟩:=h
   have:=iG (P:=P) (w:=w) (β:=β) a hsc
   refine ⟨?_,fun s f=>by simpa [SV.ids,C.ids] using f⟩
   simp only [Instr.sliceAt,Instr.slice,SV.den,C.den,Sem.run_bind,ao g,Result.andThen_ok,this,aL j,Sem.run_pure,Option.getD_some,r]
   congr 2
   unfold slO
   split<;>simp [gF]
  ·cases h
 ·rename_i s len c
  split at h
  ·split at h
   ·rename_i n q m a
    simp only [Q.ret.injEq] at h;obtain ⟨rfl,rfl⟩:=h
    have hm:m=c:=by
     unfold oz at a
     simp only [NL] at a
     split at a
     ·cases a
     ·split at a
      ·cases a
      ·simp only [Option.some.injEq,Prod.mk.injEq] at a;exact a.2.2.2.symm
    have:=iG (P:=P) (w:=w) (β:=β) a hsc
    refine ⟨?_,fun s f=>by simpa [SV.ids,C.ids] using f⟩
    simp only [Instr.sliceAt,Instr.slice,SV.den,C.den,Sem.run_bind,ao g,Result.andThen_ok,this,aL j,Sem.run_pure,Option.getD_none,Nat.zero_mul,Nat.sub_zero,b,ite_self,hm]
   ·cases h
  ·cases h
 ·cases h
end Go.bM
namespace Go.bM
variable {P:Program} {T:dA} {n:Nat} {V0:View} {bH:Fw} {β0:Nat->Nat} {st:St} {β:Nat->Nat} {a:Act} {w:World} {V:View}
theorem ew {s:Sem Value}{v:Value}{w':World}(h:s.run P w=.ok v w'):(do pure (Next.value (←s)):Sem Next).run P w=.ok (.value v) w':=by
 simp [h]
theorem TL {s:Sem Unit}{w':World}(h:s.run P w=.ok () w'):(do s;pure Next.skip:Sem Next).run P w=.ok .skip w':=by
 simp [h]
theorem sk {f:Int->Int->Int}{k:IntKind}{g:Value->Value->Sem Value}(hg:∀x y k',(g (.int k x) (.int k' y))=pure (.int k (f x y))):∀(r:List SV)(x m:Int),foldI f k x r=some m ->
  ((r.map (SV.den β)).foldlM g (.int k x)).run P w=.ok (.int k m) w
 | [],x,m,h=>by simp only [foldI,Option.some.injEq] at h;subst h;rfl
 | y::r,x,m,h=>by
  unfold foldI at h
  split at h
  ·rename_i e;cases e
  ·rename_i k' b r' e
   simp only [List.cons.injEq] at e
   obtain ⟨rfl,rfl⟩:=e
   split at h
   ·simp only [List.map_cons,List.foldlM_cons,SV.den,C.den,hg,pure_bind]
    exact sk hg r _ m h
   ·cases h
  ·cases h
theorem H9:∀{cs:List C} {l:List (OA×Nat×Nat)} {k:Nat},H8 cs=some l->k<l.length->cs[k]?=some (.v (.slice (l.getD k (none,0,0)).1 (l.getD k (none,0,0)).2.1 (l.getD k (none,0,0)).2.2))
 | [],l,k,h,hk=>by cases h;cases hk
 | c::r,l,k,h,hk=>by
  unfold H8 at h
  split at h
  ·cases ‹_=[]›
  ·rename_i p n d r' e
   cases e
   split at h
   ·rename_i l' hl'
    cases h
    cases k with
    | zero=>rfl
    | succ k=>simpa using H9 hl' (by simpa using hk)
   ·cases h
  ·cases h
theorem tD {d:TypeDesc}(h:kI d=.str):d=.string:=by cases d<;>simp_all [kI]
theorem Cq {b:Builtin}{xs:List SV}{t:TypeId}{ts:List TypeId}{ty:TypeId}{cs:Array Bool}{i:TI}(hi:lu P t=some i){sc:List Prop}{v:SV}(h:lA b i.k xs=.ret sc v) :
  (builtin b (t::ts).toArray ty cs (xs.map (SV.den β)).toArray).run P w=.ok (.value (v.den β)) w/\v.ids=[]:=by
 obtain ⟨info,d,z,u,l,A,n,B,D,E⟩:=aC hi
 unfold lA at h
 split at h
 ·cases h
 ·rename_i x r
  split at h
  ·split at h
   ·rename_i e p m c j
    rw [n] at j
    obtain rfl:=aT j
    simp only [Q.ret.injEq] at h;obtain ⟨rfl,rfl⟩:=h
    refine ⟨?_,rfl⟩
    simp [builtin,Builtin.len_,ao l,SV.den,C.den,goInt]
   ·rename_i e s o m c j
    rw [n] at j
    obtain rfl:=aT j
    simp only [Q.ret.injEq] at h;obtain ⟨rfl,rfl⟩:=h
    refine ⟨?_,rfl⟩
    simp [builtin,Builtin.len_,ao l,SV.den,C.den,goInt]
   ·rename_i e s m c j
    rw [n] at j
    obtain rfl:=aT j
    simp only [Q.ret.injEq] at h;obtain ⟨rfl,rfl⟩:=h
    refine ⟨?_,rfl⟩
    simp [builtin,Builtin.len_,ao l,SV.den,C.den,goInt]
   ·rename_i s j
    rw [n] at j
    obtain rfl:=tD j
    simp only [Q.ret.injEq] at h;obtain ⟨rfl,rfl⟩:=h
    refine ⟨?_,rfl⟩
    simp [builtin,Builtin.len_,ao l,SV.den,C.den,goInt]
   ·cases h
  ·split at h
   ·rename_i e p m c j
    rw [n] at j
    obtain rfl:=aT j
    simp only [Q.ret.injEq] at h;obtain ⟨rfl,rfl⟩:=h
    refine ⟨?_,rfl⟩
    simp [builtin,Builtin.cap_,ao l,SV.den,C.den,goInt]
   ·rename_i e s o m c j
    rw [n] at j
    obtain rfl:=aT j
    simp only [Q.ret.injEq] at h;obtain ⟨rfl,rfl⟩:=h
    refine ⟨?_,rfl⟩
    simp [builtin,Builtin.cap_,ao l,SV.den,C.den,goInt]
   ·rename_i e s m c j
    rw [n] at j
    obtain rfl:=aT j
    simp only [Q.ret.injEq] at h;obtain ⟨rfl,rfl⟩:=h
    refine ⟨?_,rfl⟩
    simp [builtin,Builtin.cap_,ao l,SV.den,C.den,goInt]
   ·cases h
  ·split at h
   ·rename_i k a
    split at h
    ·rename_i m hm
     simp only [Q.ret.injEq] at h;obtain ⟨rfl,rfl⟩:=h
     refine ⟨?_,rfl⟩
     have:=sk (P:=P) (w:=w) (β:=β) (f:=bV) (k:=k) (g:=Builtin.min2) (fun x y q=>by simp [Builtin.min2,bV]) r a m hm
     simp [builtin,Builtin.min_,SV.den,C.den] at this ⊢
     rw [this]
     rfl
    ·cases h
   ·cases h
  ·split at h
   ·rename_i k a
    split at h
    ·rename_i m hm
     simp only [Q.ret.injEq] at h;obtain ⟨rfl,rfl⟩:=h
     refine ⟨?_,rfl⟩
     have:=sk (P:=P) (w:=w) (β:=β) (f:=bU) (k:=k) (g:=Builtin.max2) (fun x y q=>by simp [Builtin.max2,bU]) r a m hm
     simp [builtin,Builtin.max_,SV.den,C.den] at this ⊢
     rw [this]
     rfl
    ·cases h
   ·cases h
  ·cases h
theorem Ka {x:Bool×List C}{y:SV}(h:rV x=some y):iW β x=y.den β/\∀s∈y.ids,s∈x.2.flatMap C.ids:=by
 obtain ⟨b,cs⟩:=x
 cases b with
 | true=>simp only [rV,Option.some.injEq] at h;subst h;exact ⟨rfl,fun s a=>a⟩
 | false=>
  match cs,h with
  | [],h=>simp [rV] at h
  | [c],h=>simp only [rV,Option.some.injEq] at h;subst h;exact ⟨rfl,fun s a=>by simpa [SV.ids] using a⟩
  | _::_::_,h=>simp [rV] at h
theorem tN:∀(xs:List SV)(ss:List Nat),wV xs=some ss->xs.map (SV.den β)=(ss.map fun s=>Value.pointer (some ⟨β s,0,none⟩))/\∀s∈ss,∃x∈xs,s∈x.ids
 | [],ss,h=>by simp only [wV,Option.some.injEq] at h;subst h;exact ⟨rfl,fun s hs=>by cases hs⟩
 | x::r,ss,h=>by
  unfold wV at h
  split at h
  ·rename_i e;cases e
  ·rename_i s r' e
   simp only [List.cons.injEq] at e
   obtain ⟨rfl,rfl⟩:=e
   split at h
   ·rename_i l d
    simp only [Option.some.injEq] at h;subst h
    obtain ⟨f,g⟩:=tN r l d
    refine ⟨by simp [f,SV.den,C.den],fun b a=>?_⟩
    rcases List.mem_cons.1 a with rfl|a
    ·exact ⟨.c (.ptr b 0),by simp,by simp [SV.ids,C.ids]⟩
    ·obtain ⟨y,i,a⟩:=g b a;exact ⟨y,List.mem_cons_of_mem _ i,a⟩
   ·cases h
  ·cases h
theorem wT (hM:Mod n V0 bH β0 st β a w V){x:Option Operand}{v:Option SV}(h:Ck st.aZ x=some v):x.map a.eval=v.map (SV.den β):=by
 cases x with
 | none=>simp only [Ck,Option.some.injEq] at h;subst h;rfl
 | some o=>
  simp only [Ck] at h
  split at h
  ·rename_i y b;simp only [Option.some.injEq] at h;subst h;simp [hM.eval b]
  ·cases h
theorem ou {x y:SV}(hx:Live st x)(h:∀s∈y.ids,s∈x.ids):Live st y:=fun s a=>hx s (h s a)
theorem mB {bx:Nat->Option aR}{t:TypeId}{x:SV}:mz T bx t x=.fail\/∃sc s b,mz T bx t x=.ue sc s b:=by
 unfold mz;split<;>(try split)<;>(try split)<;>(try split)<;>(try split)<;>(try split)<;>first|exact .inl rfl|exact .inr ⟨_,_,_,rfl⟩
theorem Gz {bx:Nat->Option aR}{t:TypeId}{x:SV}{sc:List Prop}{v:SV}(h:mz T bx t x=.ret sc v):False:=by
 rcases mB (T:=T) (bx:=bx) (t:=t) (x:=x) with e|⟨_,_,_,e⟩<;>rw [e] at h<;>cases h
theorem Ey {bx:Nat->Option aR}{e:TypeId}{ei:TI}{b x:SV}{sc:List Prop}{v:SV}(h:ch bx e ei b x=.ret sc v):False:=by
 unfold ch at h
 split at h
 ·cases h
 ·split at h
  ·cases h
  ·dsimp only at h
   split at h
   ·cases h
   ·split at h
    ·cases h
    ·split at h
     ·split at h<;>cases h
     ·cases h
    ·split at h
     ·split at h<;>cases h
     ·cases h
    ·cases h
theorem Je (hT:dA.ok P T)(hM:Mod n V0 bH β0 st β a w V){o:Oper}{sc:List Prop}{v:SV}(h:aJ T st.aZ st.boxes o.op=.ret sc v)(hsc:∀p∈sc,p) :
  (execOp a.eval o).run P w=.ok (.value (v.den β)) w/\Live st v:=by
 unfold aJ at h
 split at h
 case h_1 op x hop=>
  split at h
  ·rename_i y hy
   simp only [Q.ret.injEq] at h;obtain ⟨rfl,rfl⟩:=h
   refine ⟨?_,hM.live hy⟩
   simp only [execOp,hop,hM.eval hy];rfl
  ·cases h
 case h_2 op x hop=>
  split at h
  ·rename_i y hy
   simp only [Q.ret.injEq] at h;obtain ⟨rfl,rfl⟩:=h
   refine ⟨?_,hM.live hy⟩
   simp only [execOp,hop,hM.eval hy];rfl
  ·cases h
 case h_3 op c x y hop=>
  split at h
  ·rename_i hc
   split at h
   ·rename_i z hz
    simp only [Q.ret.injEq] at h;obtain ⟨rfl,rfl⟩:=h
    refine ⟨?_,hM.live hz⟩
    simp [execOp,hop,hM.eval hz,hM.eval hc,SV.den,C.den,asBool]
   ·cases h
  ·rename_i hc
   split at h
   ·rename_i z hz
    simp only [Q.ret.injEq] at h;obtain ⟨rfl,rfl⟩:=h
    refine ⟨?_,hM.live hz⟩
    simp [execOp,hop,hM.eval hz,hM.eval hc,SV.den,C.den,asBool]
   ·cases h
  ·cases h
 case h_4=>split at h<;>cases h
 case h_5=>
  split at h
  ·split at h<;>cases h
  ·cases h
 case h_6 op t parts hop=>
  split at h
  ·rename_i i ps hi hps
   have hi:=hT _ _ hi
   split at h
   ·rename_i fs hk
    split at h
    ·rename_i pl hpl
     split at h
     ·rename_i cs hcs
      simp only [Q.ret.injEq] at h;obtain ⟨rfl,rfl⟩:=h
      obtain ⟨h1,h2⟩:=BA hT hM hi hk hps hpl hcs hsc
      refine ⟨?_,h2⟩
      simp only [execOp,hop];exact ew h1
     ·cases h
    ·cases h
   ·rename_i m e hk
    split at h
    ·rename_i ei DX
     split at h
     ·rename_i cs hcs
      simp only [Q.ret.injEq] at h;obtain ⟨rfl,rfl⟩:=h
      obtain ⟨h1,h2⟩:=Dm hT hM hi hk hps DX hcs hsc
      refine ⟨?_,h2⟩
      simp only [execOp,hop];exact ew h1
     ·cases h
    ·cases h
   ·cases h
  ·cases h
 case h_7=>
  split at h
  ·split at h
   ·split at h
    ·split at h
     ·split at h<;>cases h
     ·cases h
    ·cases h
   ·cases h
  ·cases h
 case h_8 op t x hop=>
  split at h
  ·rename_i i y hi hy
   obtain ⟨h1,h2⟩:=Ba hM (hT _ _ hi) h
   refine ⟨?_,h2⟩
   simp only [execOp,hop,hM.eval hy];exact ew h1
  ·cases h
 case h_9=>
  split at h
  ·unfold h_ at h
   split at h
   ·split at h
    ·split at h
     ·split at h<;>cases h
     ·split at h<;>cases h
     ·split at h
      ·cases h
      ·split at h<;>cases h
     ·cases h
    ·cases h
   ·cases h
  ·cases h
 case h_10 op x hop=>
  split at h
  ·rename_i s o hx
   simp only [Q.ret.injEq] at h;obtain ⟨rfl,rfl⟩:=h
   refine ⟨?_,hM.live hx⟩
   simp [execOp,hop,hM.eval hx,SV.den,C.den]
  ·rename_i p hx
   simp only [Q.ret.injEq] at h;obtain ⟨rfl,rfl⟩:=h
   obtain ⟨ad,rfl⟩:=Option.isSome_iff_exists.1 (hsc (p.isSome=true) (by simp))
   refine ⟨?_,hM.live hx⟩
   simp [execOp,hop,hM.eval hx,SV.den,C.den]
  ·cases h
 case h_11 op bop xt x y yt hop=>
  split at h
  ·rename_i p q hp hq
   have key:(q=.v .nilIface->∃c,y=.const c)->Cp T bop xt p q=.ret sc v->(execOp a.eval o).run P w=.ok (.value (v.den β)) w/\Live st v:=by
    intro hc h
    obtain ⟨h1,h2⟩:=Lx (P:=P) (w:=w) (β:=β) hT (ox:=x) (oy:=y) h hsc hc
    refine ⟨?_,bT h2⟩
    simp only [execOp,hop,hM.eval hp,hM.eval hq];exact ew h1
   split at h
   ·split at h
    ·exact key (fun _=>⟨_,rfl⟩) h
    ·cases h
   ·rename_i hne;exact key (fun e=>absurd e hne) h
  ·cases h
 case h_12 op t x hop=>
  split at h
  ·rename_i hx
   simp only [Q.ret.injEq] at h;obtain ⟨rfl,rfl⟩:=h
   refine ⟨?_,bT rfl⟩
   simp [execOp,hop,hM.eval hx,SV.den,C.den,Op.unary]
  ·rename_i hx
   simp only [Q.ret.injEq] at h;obtain ⟨rfl,rfl⟩:=h
   refine ⟨?_,bT rfl⟩
   simp [execOp,hop,hM.eval hx,SV.den,C.den,Op.unary]
  ·rename_i b hx
   simp only [Q.ret.injEq] at h;obtain ⟨rfl,rfl⟩:=h
   refine ⟨?_,bT rfl⟩
   simp [execOp,hop,hM.eval hx,SV.den,C.den,Op.unary]
  ·cases h
 case h_13 op t x hop=>
  split at h
  ·rename_i k m hx
   simp only [Q.ret.injEq] at h;obtain ⟨rfl,rfl⟩:=h
   refine ⟨?_,bT rfl⟩
   simp [execOp,hop,hM.eval hx,SV.den,C.den,Op.unary,Op.intBits,bB]
  ·cases h
 case h_14 op t x hop=>
  split at h
  ·rename_i k m hx
   simp only [Q.ret.injEq] at h;obtain ⟨rfl,rfl⟩:=h
   refine ⟨?_,bT rfl⟩
   simp [execOp,hop,hM.eval hx,SV.den,C.den,Op.unary,Op.intArith]
  ·cases h
 case h_15 op src dst x hop=>
  split at h
  ·rename_i i0 i k m hi0 hi hx
   obtain ⟨ON,d0,z0,g1,g2,-⟩:=aC (hT _ _ hi0)
   obtain ⟨info,d,z,h1,h2,h3,h4,h5,h6,h7⟩:=aC (hT _ _ hi)
   split at h
   ·rename_i k' hk
    rw [h4] at hk
    obtain rfl:=DN hk
    simp only [Q.ret.injEq] at h;obtain ⟨rfl,rfl⟩:=h
    refine ⟨?_,bT rfl⟩
    simp only [execOp,hop,hM.eval hx]
    refine ew ?_
    simp only [convert,Sem.run_bind,ao g2,ao h2,Result.andThen_ok,SV.den,C.den]
    cases d0<;>rfl
   ·cases h
  ·cases h
 case h_16 op f first caps hop=>
  split at h
  ·rename_i hf
   split at h
   ·rename_i xs hxs
    split at h
    ·rename_i ss hss
     simp only [Q.ret.injEq] at h;obtain ⟨rfl,rfl⟩:=h
     obtain ⟨h1,h2⟩:=f_ hM _ _ hxs
     obtain ⟨h3,h4⟩:=tN (β:=β) _ _ hss
     refine ⟨?_,fun s hs=>?_⟩
     ·have e1:first=#[]:=by apply Array.ext';exact hf
      have e2:caps.map a.eval=(ss.map fun s=>Value.pointer (some ⟨β s,0,none⟩)).toArray:=by
       apply Array.ext'
       rw [Array.toList_map,h1,h3]
      simp [execOp,hop,Instr.makeFunc,e1,e2,SV.den,C.den]
     ·obtain ⟨x,hx,hs'⟩:=h4 s hs
      exact h2 x hx s hs'
    ·cases h
   ·cases h
  ·cases h
 case h_17=>
  split at h
  ·unfold Bb at h
   split at h
   ·split at h
    ·split at h
     ·split at h
      ·split at h<;>cases h
      ·cases h
     ·cases h
    ·cases h
   ·cases h
  ·cases h
 case h_18 op t x lo hi mx hop=>
  split at h
  ·rename_i i xv l h' m hi' hx hl hh hm
   have hi':=hT _ _ hi'
   split at h
   ·rename_i e hk
    split at h
    ·rename_i ei DX
     obtain ⟨h1,h2⟩:=GC (P:=P) (w:=w) (β:=β) hT hi' hk DX h hsc
     refine ⟨?_,ou (hM.live hx) h2⟩
     simp only [execOp,hop,hM.eval hx,wT hM hl,wT hM hh,wT hM hm];exact ew h1
    ·cases h
   ·cases h
  ·cases h
 case h_19 op t x f hop=>
  split at h
  ·rename_i i xv hi hx
   have hi:=hT _ _ hi
   split at h
   ·rename_i fs hk
    split at h
    ·rename_i ft off hf
     split at h
     ·rename_i fi hfi
      split at h
      ·cases h
      ·rename_i hs
       have hs:fi.size≠0:=fun e=>hs (beq_eq.2 e)
       split at h
       ·rename_i s o'
        simp only [Q.ret.injEq] at h;obtain ⟨rfl,rfl⟩:=h
        have:=tF (w:=w) hT hi hk hf hfi hs ⟨β s,o',none⟩
        rw [gF] at this
        refine ⟨?_,ou (hM.live hx) (fun s hs=>by simpa [SV.ids,C.ids] using hs)⟩
        simp only [execOp,hop,hM.eval hx];exact ew this
       ·rename_i p
        simp only [Q.ret.injEq] at h;obtain ⟨rfl,rfl⟩:=h
        obtain ⟨ad,rfl⟩:=Option.isSome_iff_exists.1 (hsc (p.isSome=true) (by simp))
        have:=tF (w:=w) hT hi hk hf hfi hs ad
        refine ⟨?_,bT rfl⟩
        simp only [execOp,hop,hM.eval hx];exact ew this
       ·cases h
     ·cases h
    ·cases h
   ·cases h
  ·cases h
 case h_20 op t x f hop=>
  split at h
  ·rename_i i cs hi hx
   have hi:=hT _ _ hi
   split at h
   ·rename_i fs hk
    split at h
    ·rename_i ft off hf
     split at h
     ·rename_i fi hfi
      obtain ⟨g1,g2⟩:=IM (P:=P) (w:=w) (β:=β) hT hi hk hf hfi (cs:=cs)
      have hagg:rJ fi.k=true->Q.ret [] (.agg ((cs.drop off).take fi.size))=.ret sc v->(execOp a.eval o).run P w=.ok (.value (v.den β)) w/\Live st v:=by
       intro hk' h
       simp only [Q.ret.injEq] at h;obtain ⟨rfl,rfl⟩:=h
       refine ⟨?_,ou (hM.live hx) fun s hs=>?_⟩
       ·simp only [execOp,hop,hM.eval hx];exact ew (g1 hk')
       ·obtain ⟨c,hc,hs⟩:=List.mem_flatMap.1 hs
        exact iD (List.mem_of_mem_drop (List.mem_of_mem_take hc)) hs
      split at h
      ·rename_i hk';exact hagg (by rw [hk'];rfl) h
      ·rename_i hk';exact hagg (by rw [hk'];rfl) h
      ·rename_i hk1 hk2
       have hk':rJ fi.k=false:=by
        cases hik:fi.k<;>first|rfl|exact absurd hik (hk1 _)|exact absurd hik (hk2 _ _)
       split at h
       ·rename_i c hc
        simp only [Q.ret.injEq] at h;obtain ⟨rfl,rfl⟩:=h
        refine ⟨?_,ou (hM.live hx) fun s hs=>?_⟩
        ·simp only [execOp,hop,hM.eval hx];exact ew (g2 c hk' hc)
        ·exact iD (List.mem_of_getElem? hc) hs
       ·cases h
     ·cases h
    ·cases h
   ·cases h
  ·cases h
 case h_21 op t x ix hop=>
  split at h
  ·rename_i i xv iv hi hx hix
   obtain ⟨h1,h2⟩:=wY (P:=P) (w:=w) (β:=β) hT (hT _ _ hi) h hsc
   refine ⟨?_,ou (hM.live hx) h2⟩
   simp only [execOp,hop,hM.eval hx,hM.eval hix];exact ew h1
  ·cases h
 case h_22 op x j hop=>
  split at h
  ·rename_i xs hx
   split at h
   ·rename_i y hy
    split at h
    ·rename_i z hz
     simp only [Q.ret.injEq] at h;obtain ⟨rfl,rfl⟩:=h
     obtain ⟨h1,h2⟩:=Ka (β:=β) hz
     refine ⟨?_,ou (hM.live hx) fun s hs=>List.mem_flatMap.2 ⟨y,List.mem_of_getElem? hy,h2 s hs⟩⟩
     have:(xs.map (iW β))[j]?=some (z.den β):=by rw [List.getElem?_map,hy];simp [h1]
     simp [execOp,hop,hM.eval hx,SV.den,Instr.extract,hy,h1]
    ·cases h
   ·cases h
  ·cases h
 case h_23 op c hop=>
  split at h
  ·split at h
   ·split at h
    ·split at h
     ·split at h
      ·exact (Ey h).elim
      ·cases h
     ·cases h
    ·cases h
   ·cases h
  ·split at h
   ·exact (Gz h).elim
   ·cases h
  ·rename_i b hb hb2 hc
   split at h
   ·rename_i xs t ts hxs hts
    split at h
    ·rename_i i hi
     obtain ⟨h1,h2⟩:=f_ hM _ _ hxs
     have e1:c.argTypes=(t::ts).toArray:=by apply Array.ext';exact hts
     have e2:c.args.map a.eval=(xs.map (SV.den β)).toArray:=by apply Array.ext';rw [Array.toList_map];exact h1
     obtain ⟨k1,k2⟩:=Cq (P:=P) (w:=w) (β:=β) (ts:=ts) (ty:=o.type) (cs:=c.args.map fun|.const _=>true|_=>false) (hT _ _ hi) h
     refine ⟨?_,bT k2⟩
     simp only [execOp,hop,resolve,hc,pure_bind,invoke,e1,e2]
     exact k1
    ·cases h
   ·cases h
  ·cases h
 case h_24 op t x ix hop=>
  split at h
  ·rename_i i s k m hi hx hix
   split at h
   ·rename_i hk
    obtain ⟨info,d,z,h1,h2,h3,h4,h5,h6,h7⟩:=aC (hT _ _ hi)
    rw [h4] at hk
    obtain rfl:=tD hk
    simp only [Q.ret.injEq] at h;obtain ⟨rfl,rfl⟩:=h
    have hb:=hsc _ (List.mem_singleton.2 rfl)
    refine ⟨?_,bT rfl⟩
    have hlt:m.toNat<s.size:=by omega
    have e:s.data.toList.getD m.toNat 0=s[m.toNat]'hlt:=by
     have:s.data.toList[m.toNat]?=some (s[m.toNat]'hlt):=by
      rw [Array.getElem?_toList];exact Array.getElem?_eq_getElem (by simpa using hlt)
     rw [List.getD_eq_getElem?_getD,this];rfl
    simp only [execOp,hop,hM.eval hx,hM.eval hix,SV.den,C.den]
    refine ew ?_
    rw [run_index_string (w:=w) t s k m h2,dif_pos hb,e]
   ·cases h
  ·rename_i i cs k m hi hx hix
   unfold lB at h
   split at h
   ·rename_i n e hk
    split at h
    ·rename_i ei l DX hl
     split at h
     ·rename_i e2 hek
      split at h
      ·rename_i hb
       rw [Bool.and_eq_true] at hb
       simp only [Q.ret.injEq] at h;obtain ⟨rfl,rfl⟩:=h
       have hm:=hsc _ (List.mem_singleton.2 rfl)
       obtain ⟨info,d,z,h1,h2,h3,h4,h5,h6,h7⟩:=aC (hT _ _ hi)
       rw [h4] at hk
       obtain rfl:=nt hk
       obtain ⟨iB,ed,ez,e1,e2,e3,e4,e5,e6,e7⟩:=aC (hT _ _ DX)
       refine ⟨?_,bT rfl⟩
       have b1:=beq_eq.1 hb.1
       have b2:=beq_eq.1 hb.2
       have hc:=H9 hl (show m.toNat<l.length by omega)
       have hp:=(Ev (w:=w) (β:=β) (hT _ _ DX) cs m.toNat).2 _ (by rw [hek];rfl) hc
       simp only [execOp,hop,hM.eval hx,hM.eval hix]
       refine ew ?_
       have es:m.toNat*iB.size=m.toNat:=by rw [←e5,b1,Nat.mul_one]
       simp only [Instr.index,SV.den,C.den,fV,Sem.run_bind,Result.andThen_ok,ao h2,Sem.run_ite,if_pos hm,aL e1,es]
       exact hp
      ·cases h
     ·cases h
    ·cases h
   ·cases h
  ·cases h
 case h_25 op t x hop=>
  split at h
  ·rename_i i y hi hx
   obtain ⟨info,d,z,h1,h2,h3,h4,h5,h6,h7⟩:=aC (hT _ _ hi)
   unfold wX at h
   split at h
   ·cases h
   ·rename_i hk
    split at h
    ·rename_i gx htup
     simp only [Q.ret.injEq] at h;obtain ⟨rfl,rfl⟩:=h
     refine ⟨?_,bT rfl⟩
     simp only [execOp,hop,hM.eval hx]
     refine ew ?_
     have hd:∀ms,d≠.interface ms:=fun ms e=>by rw [e] at h4;exact hk h4
     have e2:y.den β=y.den fun _=>0:=SV.bR fun s hs=>by rw [gx] at hs;cases hs
     show (Instr.makeInterface t (y.den β)).run P w=.ok (.iface t (y.den fun _=>0)) w
     rw [e2]
     generalize y.den (fun _=>0)=u
     simp only [Instr.makeInterface,Sem.run_bind,ao h2,Result.andThen_ok]
     cases d<;>first|rfl|exact absurd rfl (hd _)
    ·cases h
  ·cases h
 case h_26=>cases h
end Go.bM
namespace Go.bM
variable {P:Program} {T:dA} {n:Nat} {V0:View} {bH:Fw} {β0:Nat->Nat} {st:St} {β:Nat->Nat} {a:Act} {w:World} {V:View}
theorem Jd (hT:dA.ok P T)(hM:Mod n V0 bH β0 st β a w V){o:Oper}{sc:List Prop}{b:aR}{x:Nat->SV}(h:aJ T st.aZ st.boxes o.op=.new sc b x)(hsc:∀p∈sc,p) :
  ∃v,(execOp a.eval o).run P w=.ok (.value v) (w.alloc (b.obj β))/\(∀d,v=(x d).den (eC β d w.heap.size)/\(x d).ids=[d])/\(∀s∈b.cs.ids,∃b',st.boxes s=some b'):=by
 have hx:∀d,SV.den (eC β d w.heap.size) (.c (.ptr d 0))=.pointer (some ⟨w.heap.size,0,none⟩):=fun d=>by simp [SV.den,C.den,aQ]
 have hy:∀d m c,SV.den (eC β d w.heap.size) (.c (.mY d 0 m c))=.slice (some ⟨w.heap.size,0,none⟩) m c:=fun d m c=>by simp [SV.den,C.den,aQ]
 unfold aJ at h
 split at h
 case h_1=>split at h<;>cases h
 case h_2=>split at h<;>cases h
 case h_3=>split at h<;>(try split at h)<;>cases h
 case h_4 op t hop=>
  split at h
  ·rename_i i hi
   obtain ⟨info,d,z,h1,h2,h3,h4,h5,h6,h7⟩:=aC (hT _ _ hi)
   simp only [Q.new.injEq] at h;obtain ⟨rfl,rfl,rfl⟩:=h
   obtain ⟨z1,z2⟩:=eT (β:=β) h7
   refine ⟨.pointer (some ⟨w.heap.size,0,none⟩),?_,fun d=>⟨(hx d).symm,rfl⟩,fun s hs=>by rw [show Cells.ids (.lit i.zero)=[] from z2] at hs;cases hs⟩
   simp only [execOp,hop]
   refine ew ?_
   simp only [Instr.alloc,Sem.run_bind,jk h1 h3,Result.andThen_ok,newVar,newRow,run_newObj,Sem.run_pure,aR.obj,Cells.den,z1]
   rfl
  ·cases h
 case h_5 op t y hop=>
  split at h
  ·rename_i v hv
   split at h
   ·cases h
   ·rename_i hnt
    simp only [Q.new.injEq] at h;obtain ⟨rfl,rfl,rfl⟩:=h
    obtain ⟨c1,-⟩:=SV.rT (β:=β) hnt hsc
    refine ⟨.pointer (some ⟨w.heap.size,0,none⟩),?_,fun d=>⟨(hx d).symm,rfl⟩,fun s hs=>hM.live hv s (SV.rU hnt hs)⟩
    simp only [execOp,hop,hM.eval hv]
    refine ew ?_
    simp only [Instr.box,newVar,newRow,Sem.run_bind,run_newObj,Result.andThen_ok,Sem.run_pure,c1,aR.obj,Cells.den]
    rfl
  ·cases h
 case h_6=>
  split at h
  ·split at h
   ·split at h
    ·split at h<;>cases h
    ·cases h
   ·split at h
    ·split at h<;>cases h
    ·cases h
   ·cases h
  ·cases h
 case h_7 op t len parts hop=>
  split at h
  ·rename_i i ps hi hps
   split at h
   ·rename_i e hk
    split at h
    ·rename_i ei DX
     split at h
     ·rename_i hc
      simp only [Bool.and_eq_true,beq_eq,Bool.not_eq_eq_eq_not] at hc
      obtain ⟨⟨c1,c2⟩,c3⟩:=hc
      have c1:=Nat.le_of_ble_eq_true c1
      have c3:ei.size≠0:=fun e=>by rw [e] at c3;cases c3
      split at h
      ·rename_i cs hcs
       simp only [Q.new.injEq] at h;obtain ⟨rfl,rfl,rfl⟩:=h
       obtain ⟨h1,h2⟩:=vy hT hM (hT _ _ hi) hk hps DX c1 c2 c3 hcs hsc
       exact ⟨_,by simp only [execOp,hop];exact ew h1,fun d=>⟨(hy d _ _).symm,rfl⟩,h2⟩
      ·cases h
     ·cases h
    ·cases h
   ·cases h
  ·cases h
 case h_8=>
  split at h
  ·unfold jI at h
   split at h
   ·split at h
    ·split at h
     ·split at h<;>cases h
     ·split at h<;>cases h
     ·split at h<;>cases h
    ·cases h
    ·split at h<;>cases h
    ·cases h
   ·split at h<;>cases h
   ·cases h
  ·cases h
 case h_9=>
  split at h
  ·unfold h_ at h
   split at h
   ·split at h
    ·split at h
     ·split at h<;>cases h
     ·split at h<;>cases h
     ·split at h
      ·cases h
      ·split at h<;>cases h
     ·cases h
    ·cases h
   ·cases h
  ·cases h
 case h_10=>split at h<;>cases h
 case h_11=>
  split at h
  ·have key:∀{op xt} {p q:C},Cp T op xt p q≠.new sc b x:=by
    intro op xt p q h
    have hi:∀k m m',nD op k m m'≠.new sc b x:=fun k m m' h=>by cases op<;>cases h
    have hn:∀neg k,Cr neg k p q≠.new sc b x:=fun neg k h=>by
     unfold Cr at h
     split at h<;>(try split at h)<;>(try split at h)<;>cases h
    unfold Cp at h
    split at h
    ·split at h
     ·split at h
      ·split at h
       ·exact hi _ _ _ h
       ·exact hi _ _ _ h
       ·split at h
        ·exact hi _ _ _ h
        ·cases h
      ·cases h
     ·split at h
      ·split at h<;>cases h
      ·cases h
     ·split at h
      ·exact hn _ _ h
      ·exact hn _ _ h
      ·cases h
    ·cases h
   split at h
   ·split at h
    ·exact (key h).elim
    ·cases h
   ·exact (key h).elim
  ·cases h
 case h_12=>split at h<;>cases h
 case h_13=>split at h<;>cases h
 case h_14=>split at h<;>cases h
 case h_15=>
  split at h
  ·split at h<;>cases h
  ·cases h
 case h_16=>split at h<;>(try split at h)<;>(try split at h)<;>cases h
 case h_17 op t l c hop=>
  split at h
  ·rename_i i lv cv hi hl hc
   unfold Bb at h
   split at h
   ·rename_i e hk
    split at h
    ·rename_i ei DX
     split at h
     ·rename_i k1 m1 k2 m2
      split at h
      ·rename_i zs hzs
       split at h
       ·cases h
       ·rename_i hcond
        simp only [Bool.or_eq_true,beq_eq,Bool.not_eq_eq_eq_not,not_or] at hcond
        obtain ⟨⟨g1,g2⟩,g3⟩:=hcond
        simp only [Q.new.injEq] at h;obtain ⟨rfl,rfl,rfl⟩:=h
        have g3:ei.size=zs.length:=by
         rcases hb:Nat.beq ei.size zs.length with _|_
         ·rw [hb] at g3;exact absurd rfl g3
         ·exact beq_eq.1 hb
        have hm:=y_ (P:=P) (w:=w) (β:=β) hT (hT _ _ hi) hk DX (k1:=k1) (k2:=k2) (l:=m1) (c:=m2) g1 g2 hzs g3 (hsc _ (by simp)) (hsc _ (by simp)) (hsc _ (by simp))
        refine ⟨_,?_,fun d=>⟨(hy d _ _).symm,rfl⟩,fun s hs=>by simp [Cells.ids] at hs⟩
        simp only [execOp,hop,hM.eval hl,hM.eval hc]
        exact ew hm
      ·cases h
     ·cases h
    ·cases h
   ·cases h
  ·cases h
 case h_18=>
  split at h
  ·split at h
   ·split at h
    ·unfold sK at h
     split at h<;>(try split at h)<;>(try split at h)<;>cases h
    ·cases h
   ·cases h
  ·cases h
 case h_19=>
  split at h
  ·split at h
   ·split at h
    ·split at h
     ·split at h
      ·cases h
      ·split at h<;>cases h
     ·cases h
    ·cases h
   ·cases h
  ·cases h
 case h_20=>
  split at h
  ·split at h
   ·split at h
    ·split at h
     ·split at h
      ·cases h
      ·cases h
      ·split at h<;>cases h
     ·cases h
    ·cases h
   ·cases h
  ·cases h
 case h_21=>
  split at h
  ·unfold hZ at h
   split at h
   ·split at h
    ·split at h
     ·split at h<;>cases h
     ·cases h
    ·split at h
     ·split at h<;>cases h
     ·cases h
    ·cases h
   ·cases h
  ·cases h
 case h_22=>split at h<;>(try split at h)<;>(try split at h)<;>cases h
 case h_23=>
  split at h
  ·split at h
   ·split at h
    ·split at h
     ·split at h
      ·unfold ch at h
       split at h
       ·cases h
       ·split at h
        ·cases h
        ·dsimp only at h
         split at h
         ·cases h
         ·split at h
          ·cases h
          ·split at h
           ·split at h<;>cases h
           ·cases h
          ·split at h
           ·split at h<;>cases h
           ·cases h
          ·cases h
      ·cases h
     ·cases h
    ·cases h
   ·cases h
  ·split at h
   ·exfalso
    rcases mB (T:=T) (bx:=st.boxes) with e|⟨_,_,_,e⟩<;>(rw [e] at h;cases h)
   ·cases h
  ·split at h
   ·split at h
    ·unfold lA at h
     split at h
     ·cases h
     ·split at h<;>(try split at h)<;>(try split at h)<;>cases h
    ·cases h
   ·cases h
  ·cases h
 case h_24=>
  split at h
  ·split at h<;>cases h
  ·unfold lB at h
   split at h
   ·split at h
    ·split at h
     ·split at h<;>cases h
     ·cases h
    ·cases h
   ·cases h
  ·cases h
 case h_25=>
  split at h
  ·unfold wX at h
   split at h
   ·cases h
   ·split at h<;>cases h
  ·cases h
 case h_26=>cases h
def dC:Q->Nat
 | .fail=>0|.ret ..=>1|.new ..=>2|.ue ..=>3|.rd ..=>4|.oT ..=>5|.app ..=>6|.sH ..=>6
theorem pG {op:BinOp}{k:IntKind}{x y:Int}:dC (nD op k x y)<=1:=by cases op<;>exact Nat.le_refl _
theorem EP {neg:Bool}{k:TK}{x y:C}:dC (Cr neg k x y)<=1:=by
 unfold Cr;split<;>(try split)<;>(try split)<;>first|exact Nat.le_refl _|exact Nat.zero_le _
theorem oV {i:TI}{cs:List C}{k:Int}:dC (lB T i cs k)<=1:=by
 unfold lB
 split
 ·split
  ·split
   ·split<;>first|exact Nat.le_refl _|exact Nat.zero_le _
   ·exact Nat.zero_le _
  ·exact Nat.zero_le _
 ·exact Nat.zero_le _
theorem qX {op:BinOp}{xt:TypeId}{x y:C}:dC (Cp T op xt x y)<=1:=by
 unfold Cp
 split
 ·split
  ·split
   ·split
    ·exact pG
    ·exact pG
    ·split
     ·exact pG
     ·exact Nat.zero_le _
   ·exact Nat.zero_le _
  ·split
   ·split<;>first|exact Nat.le_refl _|exact Nat.zero_le _
   ·exact Nat.zero_le _
  ·split
   ·exact EP
   ·exact EP
   ·exact Nat.zero_le _
 ·exact Nat.zero_le _
theorem xu {sz:Nat}{x:SV}{lo hi mx:Option SV}:dC (sK sz x lo hi mx)<=1:=by
 unfold sK;split<;>(try split)<;>(try split)<;>first|exact Nat.le_refl _|exact Nat.zero_le _
theorem nQ {i:TI}{x ix:SV}:dC (hZ T i x ix)<=1:=by
 unfold hZ;split<;>(try split)<;>(try split)<;>(try split)<;>first|exact Nat.le_refl _|exact Nat.zero_le _
theorem qY {b:Builtin}{k:TK}{xs:List SV}:dC (lA b k xs)<=1:=by
 unfold lA;split<;>(try split)<;>(try split)<;>(try split)<;>first|exact Nat.le_refl _|exact Nat.zero_le _
theorem Jr {i:TI}{l c:SV}:dC (Bb T i l c)=0\/dC (Bb T i l c)=2:=by
 unfold Bb;split<;>(try split)<;>(try split)<;>(try split)<;>(try split)<;>first|exact .inl rfl|exact .inr rfl
theorem pI {bx:Nat->Option aR}{i:TI}{a x:SV}:dC (h_ bx i a x)=0\/dC (h_ bx i a x)=3:=by
 unfold h_;split<;>(try split)<;>(try split)<;>(try split)<;>(try split)<;>first|exact .inl rfl|exact .inr rfl
theorem sM {bx:Nat->Option aR}{i:TI}{x:SV}:dC (jI bx i x)=0\/dC (jI bx i x)=1\/dC (jI bx i x)=4\/dC (jI bx i x)=5:=by
 unfold jI;split<;>(try split)<;>(try split)<;>(try split)<;>first|exact .inl rfl|exact .inr (.inl rfl)|exact .inr (.inr (.inl rfl))|exact .inr (.inr (.inr rfl))
theorem nP {bx:Nat->Option aR}{e:TypeId}{ei:TI}{b x:SV}:dC (ch bx e ei b x)=0\/dC (ch bx e ei b x)=6:=by
 unfold ch
 split
 ·exact .inl rfl
 ·split
  ·exact .inl rfl
  ·dsimp only
   split
   ·exact .inl rfl
   ·split<;>(try split)<;>(try split)<;>first|exact .inl rfl|exact .inr rfl
theorem pH {bx:Nat->Option aR}{t:TypeId}{x:SV}:dC (mz T bx t x)=0\/dC (mz T bx t x)=3:=by
 rcases mB (T:=T) (bx:=bx) (t:=t) (x:=x) with e|⟨_,_,_,e⟩<;>rw [e]<;>first|exact .inl rfl|exact .inr rfl
theorem gg {ρ:Operand->Option SV}{bx:Nat->Option aR}{op:Op} :
  (dC (aJ T ρ bx op)=3->((∃t a x,op=.store t a x)\/∃c,op=.call c/\c.callee=.builtin .clear))/\(dC (aJ T ρ bx op)=4\/dC (aJ T ρ bx op)=5->∃t a,op=.load t a) /\
  (dC (aJ T ρ bx op)=6->∃c,op=.call c/\c.callee=.builtin .append):=by
 have fh:∀{q:Q},dC q<=1->(dC q=3->((∃t a x,op=.store t a x)\/∃c,op=.call c/\c.callee=.builtin .clear))/\(dC q=4\/dC q=5->∃t a,op=.load t a)/\(dC q=6->∃c,op=.call c/\c.callee=.builtin .append):=by
  intro q h;exact ⟨by omega,by omega,by omega⟩
 have Z8:∀{q:Q},dC q=0\/dC q=2->(dC q=3->((∃t a x,op=.store t a x)\/∃c,op=.call c/\c.callee=.builtin .clear))/\(dC q=4\/dC q=5->∃t a,op=.load t a)/\(dC q=6->∃c,op=.call c/\c.callee=.builtin .append):=by
  intro q h;exact ⟨by omega,by omega,by omega⟩
 unfold aJ
 split
 case h_8=>
  split
  ·refine ⟨fun h=>?_,fun _=>⟨_,_,rfl⟩,fun h=>?_⟩
   ·rcases sM (bx:=bx) with h'|h'|h'|h'<;>(rw [h'] at h;cases h)
   ·rcases sM (bx:=bx) with h'|h'|h'|h'<;>(rw [h'] at h;cases h)
  ·exact fh (Nat.zero_le _)
 case h_9=>
  split
  ·refine ⟨fun _=>.inl ⟨_,_,_,rfl⟩,fun h=>?_,fun h=>?_⟩
   ·rcases pI (bx:=bx) with h'|h'<;>(rw [h'] at h;rcases h with h|h<;>cases h)
   ·rcases pI (bx:=bx) with h'|h'<;>(rw [h'] at h;cases h)
  ·exact fh (Nat.zero_le _)
 case h_11=>
  split
  ·split
   ·split
    ·exact fh qX
    ·exact fh (Nat.zero_le _)
   ·exact fh qX
  ·exact fh (Nat.zero_le _)
 case h_17=>
  split
  ·exact Z8 Jr
  ·exact fh (Nat.zero_le _)
 case h_18=>
  split
  ·split
   ·split
    ·exact fh xu
    ·exact fh (Nat.zero_le _)
   ·exact fh (Nat.zero_le _)
  ·exact fh (Nat.zero_le _)
 case h_21=>
  split
  ·exact fh nQ
  ·exact fh (Nat.zero_le _)
 case h_23 c=>
  split
  ·rename_i hc
   refine ⟨fun h=>?_,fun h=>?_,fun _=>⟨c,rfl,hc⟩⟩
   ·exfalso
    split at h<;>(try split at h)<;>(try split at h)<;>(try split at h)<;>first|(rcases nP (bx:=bx) with h'|h'<;>(rw [h'] at h;cases h))|cases h
   ·exfalso
    split at h<;>(try split at h)<;>(try split at h)<;>(try split at h)<;>first|(rcases nP (bx:=bx) with h'|h'<;>(rw [h'] at h;rcases h with h|h<;>cases h))|(rcases h with h|h<;>cases h)
  ·rename_i hc
   split
   ·refine ⟨fun _=>.inr ⟨c,rfl,hc⟩,fun h=>?_,fun h=>?_⟩
    ·rcases pH (T:=T) (bx:=bx) with h'|h'<;>(rw [h'] at h;rcases h with h|h<;>cases h)
    ·rcases pH (T:=T) (bx:=bx) with h'|h'<;>(rw [h'] at h;cases h)
   ·exact fh (Nat.zero_le _)
  ·split
   ·split
    ·exact fh qY
    ·exact fh (Nat.zero_le _)
   ·exact fh (Nat.zero_le _)
  ·exact fh (Nat.zero_le _)
 case h_24=>
  split
  ·split
   ·exact fh (Nat.le_refl _)
   ·exact fh (Nat.zero_le _)
  ·exact fh oV
  ·exact fh (Nat.zero_le _)
 case h_25=>
  split
  ·unfold wX
   split
   ·exact fh (Nat.zero_le _)
   ·split
    ·exact fh (Nat.le_refl _)
    ·exact fh (Nat.zero_le _)
  ·exact fh (Nat.zero_le _)
 all_goals
  first
  | exact fh (Nat.zero_le _)
  | ((repeat' split)<;>first|exact fh (Nat.zero_le _)|exact fh (Nat.le_refl _)|exact Z8 (.inr rfl))
theorem GA (hT:dA.ok P T)(hM:Mod n V0 bH β0 st β a w V){t:TypeId}{x:SV}{sc:List Prop}{s:Nat}{b:aR}(h:mz T st.boxes t x=.ue sc s b)(hsc:∀p∈sc,p)(ty:TypeId)(cs:Array Bool) :
  ∃w',(builtin .clear #[t] ty cs #[x.den β]).run P w=.ok (.value (.tuple #[])) w'/\Mod n V0 bH β0 (st.box s b) β a w' V:=by
 unfold mz at h
 split at h
 ·rename_i i O
  split at h
  ·rename_i e I
   split at h
   ·rename_i r R
    split at h
    ·rename_i q g o k c S
     split at h
     ·rename_i f D J
      split at h
      ·cases h
      ·rename_i K
       simp only [Q.ue.injEq] at h;obtain ⟨rfl,rfl,rfl⟩:=h
       simp only [Bool.or_eq_true,beq_eq,Bool.not_eq_true',not_or,Bool.not_eq_false,List.all_eq_true] at K
       obtain ⟨⟨c1,L⟩,U⟩:=K
       obtain ⟨info,d,z,h1,M,h3,W,h5,h6,h7⟩:=aC (hT _ _ O)
       obtain ⟨X,ed,u,Y,e2,Z,e4,e5,e6,e7⟩:=aC (hT _ _ R)
       rw [W] at I
       obtain rfl:=aT I
       obtain ⟨N,z2⟩:=eT (β:=β) e7
       obtain ⟨d1,-⟩:=gj (β:=β) S
       have a0:u.cells.size=X.size:=by rw [←N,d1];simp [←e5,L]
       have E:u.cells.toList=q:=by rw [←d1,←N]
       have hle:o+k*r.size<=f.length:=hsc _ (by simp)
       have y:∀m,(pT m q).length=m*r.size:=fun m=>by
        rw [rG,L]
        simp [List.length_flatten]
       have F:∀v∈pT k q,v.oneCell'=true:=fun v A=>by
        rw [rG] at A
        obtain ⟨l,hl,A⟩:=List.mem_flatten.1 A
        rw [List.eq_of_mem_replicate hl] at A
        exact U v A
       have j:w.heap[β g]?=some (.cells f.toArray D (0,0)):=hM.row J cz
       have key:=run_storeCells_at (P:=P) (β g) o D (pT k q) 0 f.toArray w j (by simpa [y] using hle) F
       simp only [Nat.add_zero,y] at key
       refine ⟨w.setRow (β g) (f.take o++pT k q++f.drop (o+k*r.size)).toArray,?_,hM.ue J cz (by intro s' G;simp [Cells.ids] at G) (by rw [eO j];rfl) rfl rfl rfl⟩
       have B:(Builtin.clear_ #[t] ty #[SV.den β (.c (.mY g o k c))]).run P w=.ok (.tuple #[]) (w.setRow (β g) (f.take o++pT k q++f.drop (o+k*r.size)).toArray):=by
        cases k with
        | zero=>
         have e0:(f.take o++pT 0 q++f.drop (o+0*r.size)).toArray=f.toArray:=by
          rw [rG];simp
         rw [e0,setRow_self w (β g) f.toArray D (0,0) j]
         simp [Builtin.clear_,ao M,SV.den,C.den]
        | succ k=>
         have ek:(Builtin.zeroCells u.cells (k+1)).toList=pT (k+1) q:=by
          unfold Builtin.zeroCells
          rw [rL (z:=u) (m:=k+1) _ rfl,rG,E]
         have H:(zeroValue e).run P w=.ok u w:=jk Y Z w
         simp only [List.append_assoc] at key ⊢
         simp [Builtin.clear_,ao M,SV.den,C.den,H,ek,key]
       simp only [builtin]
       exact ew B
     ·cases h
    ·cases h
   ·cases h
  ·cases h
 ·cases h
theorem Jf (hT:dA.ok P T)(hM:Mod n V0 bH β0 st β a w V){o:Oper}{sc:List Prop}{s:Nat}{b:aR}(h:aJ T st.aZ st.boxes o.op=.ue sc s b)(hsc:∀p∈sc,p) :
  ∃nx w',(execOp a.eval o).run P w=.ok nx w'/\(nx=.skip\/∃v,nx=.value v)/\Mod n V0 bH β0 (st.box s b) β a w' V:=by
 rcases (gg (T:=T) (ρ:=st.aZ) (bx:=st.boxes) (op:=o.op)).1 (by rw [h];rfl) with ⟨t,y,x,d⟩|⟨c,d,k⟩
 ·rw [d] at h
  simp only [aJ] at h
  split at h
  ·rename_i i C D l m e
   obtain ⟨w',f,q⟩:=GD hM (hT _ _ l) (hM.live e) h hsc
   refine ⟨.skip,w',?_,.inl rfl,q⟩
   simp only [execOp,d,hM.eval m,hM.eval e]
   exact TL f
  ·cases h
 ·obtain ⟨E,args,r⟩:=c
  dsimp only at k
  subst k
  rw [d] at h
  simp only [aJ] at h
  split at h
  ·rename_i x t g j
   obtain ⟨f,-⟩:=f_ hM _ _ g
   have u:r=#[t]:=by apply Array.ext';exact j
   have z:args.map a.eval=#[x.den β]:=by apply Array.ext';rw [Array.toList_map];exact f
   obtain ⟨w',A,B⟩:=GA hT hM h hsc o.type (args.map fun|.const _=>true|_=>false)
   refine ⟨.value (.tuple #[]),w',?_,.inr ⟨_,rfl⟩,B⟩
   simp only [execOp,d,resolve,pure_bind,invoke,u,z]
   exact A
  ·cases h
theorem LC (hT:dA.ok P T)(hM:Mod n V0 bH β0 st β a w V){o:Oper}{p:OA}{sh:ve}(h:aJ T st.aZ st.boxes o.op=.rd p sh){x:SV}{k:Prop}
  (hx:x.ids=[])(hs:(∃c,x=.c c/\∃s',sh=.one s')\/∃cs l,x=.agg cs/\sh=.agg l/\cs.length=l.length)(hr:V.MC p x k) :
  (execOp a.eval o).run P w=.ok (.value (x.den β)) w/\k:=by
 obtain ⟨t,y,b⟩:=(gg (T:=T) (ρ:=st.aZ) (bx:=st.boxes) (op:=o.op)).2.1 (by rw [h];exact .inl rfl)
 rw [b] at h
 simp only [aJ] at h
 split at h
 ·rename_i i m d e
  unfold jI at h
  split at h
  ·split at h
   ·split at h
    ·split at h<;>cases h
    ·split at h<;>cases h
    ·split at h<;>cases h
   ·cases h
   ·split at h<;>cases h
   ·cases h
  ·split at h
   ·rename_i f
    simp only [Q.rd.injEq] at h
    obtain ⟨rfl,rfl⟩:=h
    obtain ⟨g,j⟩:=Qx hM (hT _ _ d) (beq_eq.1 f) hx hs hr
    refine ⟨?_,j⟩
    simp only [execOp,b,hM.eval e]
    exact ew g
   ·cases h
  ·cases h
 ·cases h
theorem Ez (hT:dA.ok P T)(hM:Mod n V0 bH β0 st β a w V){o:Oper}{vs:List Value}{of size:Nat}{sh:ve}(h:aJ T st.aZ st.boxes o.op=.oT vs of size sh){x:SV}
  (hx:x.ids=[])(hs:(∃c,x=.c c/\∃s',sh=.one s')\/∃cs l,x=.agg cs/\sh=.agg l/\cs.length=l.length)(hr:NY vs of size x) :
  (execOp a.eval o).run P w=.ok (.value (x.den β)) w:=by
 obtain ⟨t,y,b⟩:=(gg (T:=T) (ρ:=st.aZ) (bx:=st.boxes) (op:=o.op)).2.1 (by rw [h];exact .inr rfl)
 rw [b] at h
 simp only [aJ] at h
 split at h
 ·rename_i i m g j
  unfold jI at h
  split at h
  ·split at h
   ·split at h
    ·split at h<;>cases h
    ·split at h<;>cases h
    ·split at h<;>cases h
   ·rename_i d
    simp only [Q.oT.injEq] at h
    obtain ⟨rfl,rfl,rfl,rfl⟩:=h
    have f:=Bc hM (hT _ _ g) (.inl d) hx hs hr
    simp only [execOp,b,hM.eval j]
    exact ew f
   ·rename_i d
    split at h
    ·cases h
    ·rename_i k
     simp only [Q.oT.injEq] at h
     obtain ⟨rfl,rfl,rfl,rfl⟩:=h
     have f:=Bc hM (hT _ _ g) (.inr ⟨d,fun e=>k (by rw [e];rfl)⟩) hx hs hr
     simp only [execOp,b,hM.eval j]
     exact ew f
   ·cases h
  ·split at h<;>cases h
  ·cases h
 ·cases h
end Go.bM
