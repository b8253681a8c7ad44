import Derived.Test.YtnnbfoejafcdlaaGreatDoorA3
set_option linter.unusedVariables false
open Go.IntKind (i64 u64 u32)
namespace Go.bo
variable {P:Program} {T:cw} {n:Nat} {V0:View} {bl:Am} {β0:Nat->Nat} {st:St} {β:Nat->Nat} {a:Act} {w:World} {V:View}
theorem A4 {t:TypeId}{name:String}{f:FuncId}(h:A3 P t name=some f)(k:Nat)(v:Value)(w:World):(Go.method (k+1) t v name).run P w=.ok (f,v) w:=by
 unfold A3 at h
 split at h
 ·rename_i i d h1 h2
  split at h
  ·rename_i m hm
   split at h
   ·rename_i f' fs hp hf
    cases h
    have hp':m.path=#[]:=by apply Array.ext';exact hp
    simp only [Go.method,typeInfo,Sem.run_bind,run_program,Result.andThen_ok,h1,hm,Sem.run_pure,hp',follow,hf,receiverAt,ai h2,Place.get]
   ·cases h
  ·cases h
 ·cases h
theorem oJ (hT:cw.ok P T)(hM:Mod n V0 bl β0 st β a w V){m:CM}{o:Oper}{K:St->View->Prop}{next:Act->World->Prop}{Q:Exit->Act->World->Prop}
  (hd:∀d,o.dst=some d->d<n)(hv:cd P T m o st V K)
  (hK:∀st' β' a' w' V',Mod n V0 bl β0 st' β' a' w' V'->K st' V'->next a' w'):o.wp P a w next Q:=by
 unfold cd at hv
 split at hv
 ·rename_i FT args ts hop
  split at hv
  ·rename_i xs hxs
   obtain ⟨h1,h2⟩:=eg hM _ _ hxs
   split at hv
   ·rename_i f ss hf
    obtain ⟨hc,cz⟩:=qH (Q:=Q) hM hd hv hK
    have e1:args.map a.eval=(xs.map (SV.den β)).toArray:=by apply Array.ext';rw [Array.toList_map];exact h1
    have e2:aQ β (xs++qJ ss)=(xs.map (SV.den β)).toArray++(ss.map fun s=>Value.pointer (some ⟨β s,0,none⟩)).toArray:=by
     unfold aQ qJ
     rw [List.map_append,List.map_map]
     apply Array.ext'
     simp [Function.comp_def,SV.den,C.den]
    have hrun:(execOp a.eval o).run P w=.ok (.enter f (aQ β (xs++qJ ss))) w:=by
     rw [e2]
     simp only [execOp,hop,resolve,hM.eval hf,SV.den,C.den,Deferred.ofValue,pure_bind,invoke,e1,Array.empty_append]
     exact hc.run _
    unfold Oper.wp
    rw [hrun]
    exact cz
   ·exact hv.elim
  ·exact hv.elim
 ·rename_i recv name args ts hop
  split at hv
  ·rename_i xs hxs
   obtain ⟨h1,h2⟩:=eg hM _ _ hxs
   split at hv
   ·rename_i t v hf
    split at hv
    ·rename_i f Eu
     obtain ⟨hc,cz⟩:=qH (Q:=Q) hM hd hv hK
     have e1:args.map a.eval=(xs.map (SV.den β)).toArray:=by apply Array.ext';rw [Array.toList_map];exact h1
     have e2:aQ β (.c (.w v)::xs)=#[v]++(xs.map (SV.den β)).toArray:=by
      unfold aQ
      apply Array.ext'
      simp [SV.den,C.den]
     have hrun:(execOp a.eval o).run P w=.ok (.enter f (aQ β (.c (.w v)::xs))) w:=by
      rw [e2]
      have e3:(#[Value.iface t v]++(xs.map (SV.den β)).toArray).extract 1 (#[Value.iface t v]++(xs.map (SV.den β)).toArray).size=(xs.map (SV.den β)).toArray:=by
       apply Array.ext'
       simp
       exact List.take_of_length_le (by simp)
      have e4:(#[Value.iface t v]++(xs.map (SV.den β)).toArray)[0]?=some (Value.iface t v):=by simp
      simp only [execOp,hop,resolve,hM.eval hf,SV.den,C.den,pure_bind,invoke,e1,e4,e3,callMethod,Sem.run_bind,run_program,Result.andThen_ok,Made.depth]
      rw [A4 Eu]
      exact hc.run _
     unfold Oper.wp
     rw [hrun]
     exact cz
    ·exact hv.elim
   ·exact hv.elim
  ·exact hv.elim
 ·exact zg hT hM hd hv hK
theorem gy (hT:cw.ok P T)(hM:Mod n V0 bl β0 st β a w V){m:CM}{h:Hint}{o:Oper}{K:St->View->Prop}{next:Act->World->Prop}{Q:Exit->Act->World->Prop}
  (hd:∀d,o.dst=some d->d<n)(hv:bV P T m h o st V K)
  (hK:∀st' β' a' w' V',Mod n V0 bl β0 st' β' a' w' V'->K st' V'->next a' w'):o.wp P a w next Q:=by
 unfold bV at hv
 split at hv
 ·exact oJ hT hM hd hv hK
 ·split at hv
  ·split at hv
   ·exact oJ hT hM hd hv hK
   ·exact hv.elim
  ·exact hv.elim
theorem Mod.refine (hM:Mod n V0 bl β0 st β a w V){g:Nat}{x y:SV}(hx:st.aq g=some x)(he:x.den β=y.den β)(hy:y.ids=[]):Mod n V0 bl β0 (st.put (some g) y) β a w V:=by
 refine ⟨hM.defers,hM.size,?_,?_,hM.uk,hM.boxes,hM.inj,hM.mo,hM.qc,hM.ext,hM.own,hM.jS,hM.iL,hM.small⟩
 ·intro t z hz
  rw [cC] at hz
  split at hz
  ·rename_i e;simp only [Option.some.injEq] at hz;rw [e,←hz,←he];exact hM.aq g x hx
  ·exact hM.aq t z hz
 ·intro t z hz
  rw [cC] at hz
  split at hz
  ·simp only [Option.some.injEq] at hz;rw [←hz,hy];exact fun s hs=>(nomatch hs)
  ·exact hM.um t z hz
theorem BP {ops:Array Oper}{tmps:Array Value}{j g:Nat}(hg:(ops[j]?).bind (·.dst)=some g):yielded ops tmps j=match tmps.getD g undef with|.bool b=>some b|_=>none:=by
 unfold yielded
 rw [hg]
 simp only [Option.bind_some]
 by_cases h:g<tmps.size
 ·have h1:tmps[g]?=some tmps[g]:=getElem?_pos tmps g h
  have h2:tmps.getD g undef=tmps[g]:=by simp [h]
  rw [h1,h2]
  generalize tmps[g]=v
  cases v<;>rfl
 ·simp [h,undef]
theorem yZ (hT:cw.ok P T)(hM:Mod n V0 bl β0 st β a w V){m:CM}{h:Hint}{ops:Array Oper}{o:Oper}{K:St->View->Prop}{next:Act->World->Prop}{Q:Exit->Act->World->Prop}
  (hd:∀d,o.dst=some d->d<n)(hv:nt P T m h ops o st V K)
  (hK:∀st' β' a' w' V',Mod n V0 bl β0 st' β' a' w' V'->K st' V'->next a' w') :
  if Region.wanted o (yielded ops a.tmps) then o.wp P a w next Q else next (a.put o.dst undef) w:=by
 unfold nt at hv
 split at hv
 ·rename_i hg
  rw [if_pos (by simp [Region.wanted,hg])]
  exact gy hT hM hd hv hK
 ·rename_i j b hg
  split at hv
  ·exact hv.elim
  ·rename_i g hdst
   have hy:=BP (tmps:=a.tmps) hdst
   have hwant:∀c:Bool,a.tmps.getD g undef=.bool c->(Region.wanted o (yielded ops a.tmps)=true↔c=b):=by
    intro c hc
    simp only [Region.wanted,hg]
    rw [hy,hc]
    simp
   have skip:∀{st2:St},Mod n V0 bl β0 st2 β a w V->K (st2.put o.dst gQ) V->next (a.put o.dst undef) w:=by
    intro st2 hM2 hK2
    exact hK _ _ _ _ _ (hM2.A9 hd rfl (bw rfl)) hK2
   split at hv
   ·rename_i hs
    have hval:=hM.aq g _ hs
    split at hv
    ·rw [if_pos ((hwant true hval).2 rfl)];exact gy hT hM hd hv hK
    ·rw [if_neg (fun h=>by have:=(hwant true hval).1 h;cases this)];exact skip hM hv
   ·rename_i hs
    have hval:=hM.aq g _ hs
    split at hv
    ·rw [if_neg (fun h=>by have:=(hwant false hval).1 h;cases this)];exact skip hM hv
    ·rw [if_pos ((hwant false hval).2 rfl)];exact gy hT hM hd hv hK
   ·rename_i c hs
    have hval:=hM.aq g _ hs
    have ht:c=true->Mod n V0 bl β0 (st.put (some g) (.c .tt)) β a w V:=fun e=>hM.refine hs (by rw [e];rfl) rfl
    have hf:c=false->Mod n V0 bl β0 (st.put (some g) (.c .ff)) β a w V:=fun e=>hM.refine hs (by rw [e];rfl) rfl
    split at hv
    ·cases c with
     | true=>rw [if_pos ((hwant true hval).2 rfl)];exact gy hT (ht rfl) hd (hv.1 rfl) hK
     | false=>rw [if_neg (fun h=>by have:=(hwant false hval).1 h;cases this)];exact skip (hf rfl) (hv.2 rfl)
    ·cases c with
     | true=>rw [if_neg (fun h=>by have:=(hwant true hval).1 h;cases this)];exact skip (ht rfl) (hv.1 rfl)
     | false=>rw [if_pos ((hwant false hval).2 rfl)];exact gy hT (hf rfl) hd (hv.2 rfl) hK
   ·rename_i xs hs
    have hval:=hM.aq g _ hs
    have:Region.wanted o (yielded ops a.tmps)=false:=by
     simp only [Region.wanted,hg]
     rw [hy,hval]
     simp [SV.den]
    rw [if_neg (by rw [this];simp)]
    exact skip hM hv
   ·exact hv.elim
theorem vo (hT:cw.ok P T){m:Nat->CM}{hint:Nat->Hint}{ops:Array Oper}(hd:∀(i:Nat)(o:Oper),ops[i]?=some o->∀d,o.dst=some d->d<n){Q:Exit->Act->World->Prop}{K:St->View->Prop}
  (hK:∀st' β' a' w' V',Mod n V0 bl β0 st' β' a' w' V'->K st' V'->Q .normal a' w') :
  ∀(l:List Nat)(st:St)(β:Nat->Nat)(a:Act)(w:World)(V:View),Mod n V0 bl β0 st β a w V->FK P T m hint ops l st V K->wpOps P ops Q l a w
 | [],st,β,a,w,V,hM,hv=>hK _ _ _ _ _ hM hv
 | i::r,st,β,a,w,V,hM,hv=>by
  simp only [FK] at hv
  simp only [wpOps]
  split at hv
  ·rename_i o ho
   rw [ho]
   dsimp only
   have:=yZ (Q:=Q) (next:=wpOps P ops Q r) hT hM (hd i o ho) hv (fun st' β' a' w' V' hM' qZ=>vo hT hd hK r st' β' a' w' V' hM' qZ)
   split at this
   ·rename_i hw;rw [if_pos hw];exact .inl this
   ·rename_i hw;rw [if_neg hw];exact this
  ·exact hv.elim
end Go.bo
namespace Go.bo
def ov (p:Nat->Option SV)(q:Nat->Option aO)(st:St):St:=
 ⟨fun t=>match p t with|some x=>some x|none=>st.aq t,fun t=>match q t with|some x=>some x|none=>st.boxes t⟩
theorem cF {a b:Nat}(h:a≠b):Nat.beq a b=false:=by
 cases hb:Nat.beq a b
 ·rfl
 ·exact absurd (beq_eq.1 hb) h
section
variable {p:Nat->Option SV} {q:Nat->Option aO} {st:St}
theorem iA {d:Option Nat}{x:SV}(h:∀k,d=some k->p k=none):(ov p q st).put d x=ov p q (st.put d x):=by
 cases d with
 | none=>rfl
 | some d=>
  have hd:=h d rfl
  simp only [ov,St.put]
  congr 1
  funext t
  by_cases e:t=d
  ·subst e;simp [hd,Nat.beq_refl]
  ·simp [cF e]
theorem jC {s:Nat}{b:aO}(h:q s=none):(ov p q st).box s b=ov p q (st.box s b):=by
 simp only [ov,St.box]
 congr 1
 funext t
 by_cases e:t=s
 ·subst e;simp [h,Nat.beq_refl]
 ·simp [cF e]
theorem bR {s:Nat}(h:q s=none):(ov p q st).boxes s=st.boxes s:=by simp [ov,h]
theorem GS {x:Operand}(h:∀t,x=.tmp t->p t=none):(ov p q st).aS x=st.aS x:=by
 cases x with
 | tmp t=>simp [St.aS,ov,h t rfl]
 | _=>rfl
def one {α:Type}(d:Option Nat)(x:α):Nat->Option α:=fun t=>match d with|some k=>cond (Nat.beq t k) (some x) none|none=>none
theorem cM {α:Type}{d:Option Nat}{x:α}{t:Nat}(h:d≠some t):one d x t=none:=by
 cases d with
 | none=>rfl
 | some k=>simp [one,cF (fun e:t=k=>h (by rw [e]))]
theorem dG (d:Option Nat)(x:SV):st.put d x=ov (one d x) (fun _=>none) st:=by
 cases d with
 | none=>rfl
 | some d=>
  simp only [ov,St.put,one]
  congr 1
  funext t
  by_cases e:t=d
  ·subst e;simp [Nat.beq_refl]
  ·simp [cF e]
theorem Au (s:Nat)(b:aO):st.box s b=ov (fun _=>none) (one (some s) b) st:=by
 simp only [ov,St.box,one]
 congr 1
 funext t
 by_cases e:t=s
 ·subst e;simp [Nat.beq_refl]
 ·simp [cF e]
theorem uF (s:Nat)(b:aO)(d:Option Nat)(x:SV):(st.box s b).put d x=ov (one d x) (one (some s) b) st:=by
 rw [dG,Au];rfl
end
theorem di {ρ ρ':Operand->Option SV}:∀l:List Operand,(∀x∈l,ρ x=ρ' x)->bB ρ l=bB ρ' l
 | [],_=>rfl
 | o::r,h=>by simp only [bB];rw [h o (by simp),di r fun x hx=>h x (by simp [hx])]
theorem iB {ρ ρ':Operand->Option SV}:∀l:List (Nat×Operand),(∀x∈l.map (·.2),ρ x=ρ' x)->partsOf ρ l=partsOf ρ' l
 | [],_=>rfl
 | (i,o)::r,h=>by simp only [partsOf];rw [h o (by simp),iB r fun x hx=>h x (by simp only [List.map_cons,List.mem_cons];exact .inr hx)]
theorem lS {ρ ρ':Operand->Option SV}:∀l:Option Operand,(∀x,l=some x->ρ x=ρ' x)->wH ρ l=wH ρ' l
 | none,_=>rfl
 | some o,h=>by simp only [wH];rw [h o rfl]
theorem kk {T:cw}{ρ ρ':Operand->Option SV}{bx:Nat->Option aO}{op:Op}(h:∀x∈op.operands.toList,ρ x=ρ' x):aH T ρ bx op=aH T ρ' bx op:=by
 cases op with
 | move x=>simp only [aH];rw [h x (by simp [Op.operands])]
 | assign x=>simp only [aH];rw [h x (by simp [Op.operands])]
 | pick c a b=>simp only [aH];rw [h c (by simp [Op.operands]),h a (by simp [Op.operands]),h b (by simp [Op.operands])]
 | box t x=>simp only [aH];rw [h x (by simp [Op.operands])]
 | build t ps=>simp only [aH];rw [iB _ fun x hx=>h x (by simpa [Op.operands] using hx)]
 | buildSlice t n ps=>simp only [aH];rw [iB _ fun x hx=>h x (by simpa [Op.operands] using hx)]
 | load t a=>simp only [aH];rw [h a (by simp [Op.operands])]
 | store t a x=>simp only [aH];rw [h a (by simp [Op.operands]),h x (by simp [Op.operands])]
 | nilCheck x=>simp only [aH];rw [h x (by simp [Op.operands])]
 | binOp o xt x y yt=>simp only [aH];rw [h x (by simp [Op.operands]),h y (by simp [Op.operands])]
 | unOp o xt x=>cases o<;>simp only [aH]<;>rw [h x (by simp [Op.operands])]
 | convert s d x=>simp only [aH];rw [h x (by simp [Op.operands])]
 | makeFunc fn first caps=>
  cases fn with
  | func f=>simp only [aH];rw [di _ fun x hx=>h x (by simp [Op.operands];exact .inr (by simpa using hx))]
  | _=>rfl
 | makeSlice t a b=>simp only [aH];rw [h a (by simp [Op.operands]),h b (by simp [Op.operands])]
 | slice t x lo hi mx=>
  simp only [aH]
  rw [h x (by simp [Op.operands]),lS lo fun y hy=>h y (by simp [Op.operands,hy]),lS hi fun y hy=>h y (by simp [Op.operands,hy]),lS mx fun y hy=>h y (by simp [Op.operands,hy])]
 | fieldAddr t x f=>simp only [aH];rw [h x (by simp [Op.operands])]
 | field t x f=>simp only [aH];rw [h x (by simp [Op.operands])]
 | indexAddr t x i=>simp only [aH];rw [h x (by simp [Op.operands]),h i (by simp [Op.operands])]
 | extract x j=>simp only [aH];rw [h x (by simp [Op.operands])]
 | index t x i=>simp only [aH];rw [h x (by simp [Op.operands]),h i (by simp [Op.operands])]
 | makeInterface t x=>simp only [aH];rw [h x (by simp [Op.operands])]
 | call c=>
  obtain ⟨BZ,args,ts⟩:=c
  cases BZ with
  | builtin b=>
   have e:bB ρ args.toList=bB ρ' args.toList:=di _ fun x hx=>h x (by simpa [Op.operands,Call.operands] using hx)
   cases b<;>simp only [aH]<;>rw [e]
  | _=>rfl
 | _=>rfl
theorem Fj {T:cw}{LF RF:List Nat}{ρ:Operand->Option SV}{bx bx':Nat->Option aO}{op:Op}(h:aV LF RF op=.pure\/aV LF RF op=.alloc):aH T ρ bx op=aH T ρ bx' op:=by
 cases op with
 | load t a=>rcases h with h|h<;>cases h
 | store t a x=>rcases h with h|h<;>cases h
 | unOp o xt x=>cases o<;>rfl
 | makeFunc fn first caps=>cases fn<;>rfl
 | call c=>
  obtain ⟨BZ,args,ts⟩:=c
  cases BZ with
  | builtin b=>cases b<;>first|rfl|(rcases h with h|h<;>cases h)
  | _=>rfl
 | _=>rfl
theorem Fl {bx bx':Nat->Option aO}{i:TI}{x:SV}(h:∀s∈x.ids,bx' s=bx s):gO bx i x=gO bx' i x:=by
 unfold gO
 split
 ·rename_i b o
  rw [h b (by simp [SV.ids,C.ids])]
 ·rfl
 ·rfl
theorem Dq {bx bx':Nat->Option aO}{i:TI}{x y:SV}(h:∀s∈x.ids,bx' s=bx s):fo bx i x y=fo bx' i x y:=by
 unfold fo
 split
 ·rename_i b o
  rw [h b (by simp [SV.ids,C.ids])]
 ·rfl
theorem Bg {bx:Nat->Option aO}{i:TI}{x y:SV}{sc:List Prop}{s:Nat}{b:aO}(h:fo bx i x y=.pH sc s b):s∈x.ids:=by
 unfold fo at h
 split at h
 ·split at h
  ·split at h
   ·split at h
    ·cases h;simp [SV.ids,C.ids]
    ·cases h
   ·split at h
    ·cases h;simp [SV.ids,C.ids]
    ·cases h
   ·split at h
    ·cases h
    ·split at h
     ·cases h;simp [SV.ids,C.ids]
     ·cases h
   ·cases h
  ·cases h
 ·cases h
theorem wO {V:View}{p:Addr}:∀(cs:List C) (i:Nat) {k:Prop},V.GZ p i cs k↔V.GZ p i cs True/\k
 | [],_,k=>by simp [View.GZ]
 | c::r,i,k=>by
  simp only [View.GZ]
  rw [wO r (i+1),and_assoc]
theorem Fo {V V':View}(h:V.Le V'){p:Addr}:∀(cs:List C) (i:Nat) {k:Prop},V.GZ p i cs k->V'.GZ p i cs k
 | [],_,_,hk=>hk
 | c::r,i,_,hk=>⟨h.at hk.1,Fo h r (i+1) hk.2⟩
theorem mV {V:View}{p:OA}{x:SV}{k:Prop}:V.FX p x k↔V.FX p x True/\k:=by
 cases x with
 | c c=>simp [View.FX]
 | agg cs=>
  simp only [View.FX]
  constructor
  ·rintro ⟨a,h1,h2⟩;rw [wO] at h2;exact ⟨⟨a,h1,h2.1⟩,h2.2⟩
  ·rintro ⟨⟨a,h1,h2⟩,hk⟩;exact ⟨a,h1,by rw [wO];exact ⟨h2,hk⟩⟩
 | ml xs=>simp [View.FX]
theorem IL {V V':View}(h:V.Le V'){p:OA}{x:SV}{k:Prop}(hk:V.FX p x k):V'.FX p x k:=by
 cases x with
 | c c=>obtain ⟨⟨a,h1,h2⟩,h3⟩:=hk;exact ⟨⟨a,h1,h.at h2⟩,h3⟩
 | agg cs=>obtain ⟨a,h1,h2⟩:=hk;exact ⟨a,h1,Fo h _ _ h2⟩
 | ml xs=>exact hk
theorem sW.split:∀(s:sW) {F:C->Prop},s.ex F->∃x,F x/\∀G:C->Prop,G x->s.ex G
 | .int _,_,⟨_,h⟩=>⟨_,h,fun _ g=>⟨_,g⟩⟩
 | .bool,_,⟨_,h⟩=>⟨_,h,fun _ g=>⟨_,g⟩⟩
 | .slice,_,⟨_,_,_,h⟩=>⟨_,h,fun _ g=>⟨_,_,_,g⟩⟩
 | .ptr,_,⟨_,h⟩=>⟨_,h,fun _ g=>⟨_,g⟩⟩
 | .str,_,⟨_,h⟩=>⟨_,h,fun _ g=>⟨_,g⟩⟩
 | .any,_,⟨_,h⟩=>⟨_,h,fun _ g=>⟨_,g⟩⟩
theorem kK:∀(l:List sW) {F:List C->Prop},H7 l F->∃x,F x/\∀G:List C->Prop,G x->H7 l G
 | [],_,h=>⟨_,h,fun _ g=>g⟩
 | s::r,_,h=>by
  obtain ⟨c,h1,h2⟩:=sW.split s h
  obtain ⟨cs,h3,h4⟩:=kK r h1
  exact ⟨c::cs,h3,fun G g=>h2 _ (h4 _ g)⟩
theorem qj.split:∀(s:qj) {F:SV->Prop},s.ex F->∃x,F x/\∀G:SV->Prop,G x->s.ex G
 | .one s,_,h=>by obtain ⟨c,h1,h2⟩:=sW.split s h;exact ⟨.c c,h1,fun G g=>h2 _ g⟩
 | .agg l,_,h=>by obtain ⟨c,h1,h2⟩:=kK l h;exact ⟨.agg c,h1,fun G g=>h2 _ g⟩
theorem nU:∀(l:List qj) {F:List (Bool×List C)->Prop},Jb l F->∃x,F x/\∀G:List (Bool×List C)->Prop,G x->Jb l G
 | [],_,h=>⟨_,h,fun _ g=>g⟩
 | .one s::r,_,h=>by
  obtain ⟨c,h1,h2⟩:=sW.split s h
  obtain ⟨cs,h3,h4⟩:=nU r h1
  exact ⟨_,h3,fun G g=>h2 _ (h4 _ g)⟩
 | .agg l::r,_,h=>by
  obtain ⟨c,h1,h2⟩:=kK l h
  obtain ⟨cs,h3,h4⟩:=nU r h1
  exact ⟨_,h3,fun G g=>h2 _ (h4 _ g)⟩
theorem Sh.split:∀(s:Sh) {F:SV->Prop},s.ex F->∃x,F x/\∀G:SV->Prop,G x->s.ex G
 | .val s,_,h=>qj.split s h
 | .ml l,_,h=>by obtain ⟨x,h1,h2⟩:=nU l h;exact ⟨_,h1,fun G g=>h2 _ g⟩
 | .none,_,h=>⟨_,h,fun _ g=>g⟩
theorem Sh.mono {s:Sh}{F G:SV->Prop}(h:s.ex F)(k:∀x,F x->G x):s.ex G:=by
 obtain ⟨x,h1,h2⟩:=s.split h
 exact h2 G (k x h1)
theorem rX {l m:List Nat}:FD l m=true↔∀x∈l,x∈m:=by
 simp only [FD,List.all_eq_true,bL]
theorem rB {op:Op}{x:Operand}(h:x∈op.operands.toList){t:Nat}(e:x=.tmp t):t∈fJ op:=by
 subst e
 exact List.mem_filterMap.2 ⟨_,h,rfl⟩
theorem kO {st st2:St}{op:Op}(h:∀t∈fJ op,st2.aq t=st.aq t){x:Operand}(hx:x∈op.operands.toList):st2.aS x=st.aS x:=by
 cases x with
 | tmp t=>exact h t (rB hx rfl)
 | _=>rfl
theorem rA {op:Op}{x:Operand}(h:x∈fI op):x∈op.operands.toList:=by
 unfold fI at h
 split at h
 ·simpa [Op.operands] using h
 ·simp at h;subst h;simp [Op.operands]
 ·simp only [Op.operands,Call.operands]
  simp at h ⊢
  rcases h with h|h
  ·exact .inr h
  ·exact .inl h
 ·simpa [Op.operands,Call.operands] using h
 ·cases h
theorem og {ρ:Operand->Option SV}:∀{l:List Operand} {xs:List SV},bB ρ l=some xs->∀x∈l,∃v,ρ x=some v/\v∈xs
 | [],_,_,_,hx=>nomatch hx
 | o::r,xs,h,x,hx=>by
  simp only [bB] at h
  split at h
  ·rename_i v l h1 h2
   cases h
   rcases List.mem_cons.1 hx with e|hx
   ·exact ⟨v,by rw [e];exact h1,by simp⟩
   ·obtain ⟨u,hu,hm⟩:=og h2 x hx
    exact ⟨u,hu,by simp [hm]⟩
  ·cases h
structure Outcome (P:Program) (T:cw) (m:CM) (h:Hint) (o:Oper) (st:St) (V:View) (R W:List Nat) (K:St->View->Prop) (p:Nat->Option SV) (q:Nat->Option aO):Prop where
 pd:∀t,t∉df o->p t=none
 qd:∀s,s∉W->q s=none
 next:K (ov p q st) V
 again:∀(st2:St)(V2:View)(K2:St->View->Prop),V.Le V2->(∀t∈fJ o.op,st2.aq t=st.aq t)->(∀s∈R,st2.boxes s=st.boxes s)->K2 (ov p q st2) V2->bV P T m h o st2 V2 K2
variable {P:Program} {T:cw} {LF RF:List Nat} {m:CM}
theorem wm {o:Oper}{t:Nat}(h:t∉df o):o.dst≠some t:=by
 intro e;apply h;simp [df,e]
theorem Hb {o:Oper}{st:St}{V:View}{K:St->View->Prop}{R W:List Nat}{Q0:Q}
  (hnew:∀sc b x,Q0=.new sc b x->df o=W/\df o=R)(MX:∀sc s b,Q0=.pH sc s b->s∈W)(happ:cx Q0≠6)
  (hv:pI Q0 o.dst st V K) :
  ∃p q,(∀t,t∉df o->p t=none)/\(∀s,s∉W->q s=none)/\K (ov p q st) V /\
   ∀(st2:St)(V2:View)(K2:St->View->Prop),V.Le V2->(∀s∈R,st2.boxes s=st.boxes s)->K2 (ov p q st2) V2->pI Q0 o.dst st2 V2 K2:=by
 cases Q0 with
 | fail=>exact hv.elim
 | ret sc x=>
  obtain ⟨h1,h2⟩:=(cJ sc _).1 hv
  refine ⟨one o.dst x,fun _=>none,fun t ht=>cM (wm ht),fun _ _=>rfl,by rw [←dG];exact h2,?_⟩
  intro st2 V2 K2 _ _ hK
  exact (cJ sc _).2 ⟨h1,by rw [dG];exact hK⟩
 | new sc b x=>
  obtain ⟨e1,e2⟩:=hnew _ _ _ rfl
  simp only [pI] at hv ⊢
  cases hd:o.dst with
  | none=>rw [hd] at hv;exact hv.elim
  | some d=>
   have hdl:df o=[d]:=by simp [df,hd]
   rw [hd] at hv
   dsimp only at hv ⊢
   split at hv
   ·rename_i hn
    obtain ⟨h1,h2⟩:=(cJ sc _).1 hv
    refine ⟨one (some d) (x d),one (some d) b,fun t ht=>cM (by intro e;apply ht;rw [hdl];simpa using e.symm),fun s hs=>cM (by intro e;apply hs;rw [←e1,hdl];simpa using e.symm),by rw [←uF];exact h2,?_⟩
    intro st2 V2 K2 _ hR hK
    rw [hR d (by rw [←e2,hdl];simp),hn]
    exact (cJ sc _).2 ⟨h1,by rw [uF];exact hK⟩
   ·exact hv.elim
 | pH sc s b=>
  simp only [pI] at hv ⊢
  cases hd:o.dst with
  | some d=>rw [hd] at hv;exact hv.elim
  | none=>
   rw [hd] at hv
   dsimp only at hv ⊢
   obtain ⟨h1,h2⟩:=(cJ sc _).1 hv
   refine ⟨fun _=>none,one (some s) b,fun _ _=>rfl,fun t ht=>cM (by intro e;apply ht;have:=MX _ _ _ rfl;simp at e;rw [←e];exact this),by rw [←Au];exact h2,?_⟩
   intro st2 V2 K2 _ _ hK
   exact (cJ sc _).2 ⟨h1,by rw [Au];exact hK⟩
 | rd a sh=>
  obtain ⟨x,h1,h2⟩:=sh.split hv
  obtain ⟨h3,h4⟩:=mV.1 h1
  refine ⟨one o.dst x,fun _=>none,fun t ht=>cM (wm ht),fun _ _=>rfl,by rw [←dG];exact h4,?_⟩
  intro st2 V2 K2 hle _ hK
  exact h2 _ (mV.2 ⟨IL hle h3,by rw [dG];exact hK⟩)
 | lB vs of size sh=>
  obtain ⟨x,h1,h2⟩:=sh.split hv
  refine ⟨one o.dst x,fun _=>none,fun t ht=>cM (wm ht),fun _ _=>rfl,by rw [←dG];exact h1.2,?_⟩
  intro st2 V2 K2 hle _ hK
  exact h2 _ ⟨h1.1,by rw [dG];exact hK⟩
 | app a b c d e f g i j=>exact absurd rfl happ
 | oc a b c d e f g i=>exact absurd rfl happ
theorem rO {o:Oper}(h:kl (aV LF RF o.op)=true)(st:St)(V:View)(K:St->View->Prop):cd P T m o st V K=pI (aH T st.aS st.boxes o.op) o.dst st V K:=by
 unfold cd
 split
 ·rename_i f args ts hop
  rw [hop] at h
  exfalso
  cases f with
  | func f=>
   simp only [aV] at h
   split at h
   ·split at h<;>cases h
   ·split at h
    ·cases h
    ·split at h<;>cases h
  | _=>cases h
 ·rename_i recv name args ts hop
  rw [hop] at h
  cases h
 ·rfl
theorem lW {ρ:Operand->Option SV}{bx:Nat->Option aO}{op:Op}:cx (aH T ρ bx op)=2->aV LF RF op=.alloc:=by
 have eY:∀{q:Q} {X:Prop},cx q<=1->cx q=2->X:=by intro q X h h';omega
 unfold aH
 split
 case h_8=>
  split
  ·intro h;rcases oo (bx:=bx) with h'|h'|h'|h'<;>(rw [h'] at h;cases h)
  ·exact eY (Nat.zero_le _)
 case h_9=>
  split
  ·intro h;rcases lZ (bx:=bx) with h'|h'<;>(rw [h'] at h;cases h)
  ·exact eY (Nat.zero_le _)
 case h_11=>
  split
  ·split
   ·split
    ·exact eY nj
    ·exact eY (Nat.zero_le _)
   ·exact eY nj
  ·exact eY (Nat.zero_le _)
 case h_17=>exact fun _=>rfl
 case h_18=>
  split
  ·split
   ·split
    ·exact eY rY
    ·exact eY (Nat.zero_le _)
   ·exact eY (Nat.zero_le _)
  ·exact eY (Nat.zero_le _)
 case h_21=>
  split
  ·exact eY kv
  ·exact eY (Nat.zero_le _)
 case h_23 c=>
  split
  ·intro h
   exfalso
   split at h<;>(try split at h)<;>(try split at h)<;>(try split at h)<;>first|(rcases ku (bx:=bx) with h'|h'<;>(rw [h'] at h;cases h))|cases h
  ·split
   ·intro h;rcases lY (T:=T) (bx:=bx) with h'|h'<;>(rw [h'] at h;cases h)
   ·exact eY (Nat.zero_le _)
  ·split
   ·split
    ·exact eY nk
    ·exact eY (Nat.zero_le _)
   ·exact eY (Nat.zero_le _)
  ·exact eY (Nat.zero_le _)
 all_goals
  first
  | exact fun _=>rfl
  | exact eY (Nat.zero_le _)
  | ((repeat' split)<;>first|exact eY (Nat.zero_le _)|exact eY (Nat.le_refl _)|exact eY lC|(unfold rM;(repeat' split)<;>first|exact eY (Nat.zero_le _)|exact eY (Nat.le_refl _)))
theorem vh {st st2:St}{op:Op}(h:∀t∈fJ op,st2.aq t=st.aq t):bB st2.aS (fI op)=bB st.aS (fI op):=
 di _ fun _ hx=>kO h (rA hx)
theorem kQ {h:Hint}{o:Oper}{st:St}{V:View}{K:St->View->Prop}{R W:List Nat}(hq:kl (aV LF RF o.op)=true)(hrw:m_ (aV LF RF o.op) h (df o)=some (R,W))
  (hv:bV P T m h o st V K):∃p q,Outcome P T m h o st V R W K p q:=by
 have core:(∀st2:St,(∀t∈fJ o.op,st2.aq t=st.aq t)->(∀s∈R,st2.boxes s=st.boxes s)->aH T st2.aS st2.boxes o.op=aH T st.aS st.boxes o.op) ->
   (∀sc b x,aH T st.aS st.boxes o.op=.new sc b x->df o=W/\df o=R)->(∀sc s b,aH T st.aS st.boxes o.op=.pH sc s b->s∈W) ->
   (∀(st2:St)(V2:View)(K2:St->View->Prop),(∀t∈fJ o.op,st2.aq t=st.aq t)->cd P T m o st2 V2 K2->bV P T m h o st2 V2 K2) ->
   cd P T m o st V K->∃p q,Outcome P T m h o st V R W K p q:=by
  intro he hn hu hb hv
  rw [rO hq] at hv
  obtain ⟨p,q,h1,h2,h3,h4⟩:=Hb (R:=R) (W:=W) hn hu (fun hQ=>by
   obtain ⟨cl,hop,mN⟩:=(eh (T:=T) (ρ:=st.aS) (bx:=st.boxes) (op:=o.op)).2.2 hQ
   rw [hop] at hq
   obtain ⟨BZ,args,ts⟩:=cl
   dsimp only at mN
   subst mN
   cases hq) hv
  refine ⟨p,q,h1,h2,h3,fun st2 V2 K2 hle hsl hbx hK=>?_⟩
  refine hb st2 V2 K2 hsl ?_
  rw [rO hq,he st2 hsl hbx]
  exact h4 st2 V2 K2 hle hbx hK
 have wJ:aV LF RF o.op=.pure\/aV LF RF o.op=.alloc->h=.free->(aV LF RF o.op=.alloc->R=df o/\W=df o)->∃p q,Outcome P T m h o st V R W K p q:=by
  intro hc hf hd
  subst hf
  refine core (fun st2 hs _=>?_) (fun sc b x hQ=>?_) (fun sc s b hQ=>?_) (fun _ _ _ _ hb=>hb) hv
  ·rw [Fj (bx':=st.boxes) hc]
   exact kk fun x hx=>kO hs hx
  ·have:=hd (lW (by rw [hQ];rfl));exact ⟨this.2.symm,this.1.symm⟩
  ·rcases (eh (T:=T) (ρ:=st.aS) (bx:=st.boxes) (op:=o.op)).1 (by rw [hQ];rfl) with ⟨t,y,x,hop⟩|⟨⟨BZ,args,ts⟩,hop,mN⟩
   ·rw [hop] at hc
    rcases hc with hc|hc<;>cases hc
   ·dsimp only at mN
    subst mN
    rw [hop] at hc
    rcases hc with hc|hc<;>cases hc
 generalize hc:aV LF RF o.op=c at hrw hq wJ
 cases c with
 | pure=>
  cases h with
  | free=>exact wJ (.inl rfl) rfl (fun e=>by cases e)
  | own l=>cases hrw
 | alloc=>
  cases h with
  | free=>
   simp only [m_,Option.some.injEq,Prod.mk.injEq] at hrw
   exact wJ (.inr rfl) rfl (fun _=>⟨hrw.1.symm,hrw.2.symm⟩)
  | own l=>cases hrw
 | load=>
  cases h with
  | free=>cases hrw
  | own l=>
   simp only [m_,Option.some.injEq,Prod.mk.injEq] at hrw
   obtain ⟨rfl,rfl⟩:=hrw
   have hop:∃t a,o.op=.load t a:=by
    generalize o.op=op at hc
    cases op with
    | load t a=>exact ⟨t,a,rfl⟩
    | call c=>obtain ⟨BZ,args,ts⟩:=c;cases BZ with
     | builtin b=>cases b<;>cases hc
     | value f=>cases f with
      | func f=>simp only [aV] at hc;split at hc<;>(try split at hc)<;>(try split at hc)<;>(try split at hc)<;>cases hc
      | _=>cases hc
     | _=>cases hc
    | _=>cases hc
   obtain ⟨t,a,hop⟩:=hop
   unfold bV at hv
   dsimp only at hv
   split at hv
   ·rename_i xs hxs
    split at hv
    ·rename_i hsub
     have ew:∀v,st.aS a=some v->∀s∈v.ids,s∈l:=by
      intro v qZ s hs
      rw [rX] at hsub
      apply hsub
      rw [hop] at hxs
      obtain ⟨u,hu,hm⟩:=og hxs a (by simp [fI])
      rw [hop]
      simp only [dw]
      rw [qZ] at hu
      cases hu
      exact List.mem_flatMap.2 ⟨_,hm,hs⟩
     refine core (fun st2 hs hb=>?_) (fun sc b x hQ=>?_) (fun sc s b hQ=>?_) (fun st2 V2 K2 hs hb=>?_) hv
     ·rw [hop] at hs ⊢
      rw [kk (ρ':=st.aS) fun x hx=>kO hs hx]
      simp only [aH]
      split
      ·rename_i i v hi DJ
       exact (Fl fun s hs'=>hb s (ew v DJ s hs')).symm
      ·rfl
     ·have:=lW (LF:=LF) (RF:=RF) (op:=o.op) (T:=T) (ρ:=st.aS) (bx:=st.boxes) (by rw [hQ];rfl)
      rw [hop] at this;cases this
     ·rcases (eh (T:=T) (ρ:=st.aS) (bx:=st.boxes) (op:=o.op)).1 (by rw [hQ];rfl) with ⟨t,y,x,hop'⟩|⟨c,hop',-⟩<;>(rw [hop] at hop';cases hop')
     ·unfold bV
      dsimp only
      rw [vh hs,hxs]
      dsimp only
      have:dw st2.boxes o.op (xs.flatMap SV.ids)=dw st.boxes o.op (xs.flatMap SV.ids):=by rw [hop];rfl
      rw [this,hsub]
      exact hb
    ·exact hv.elim
   ·exact hv.elim
 | store=>
  cases h with
  | free=>cases hrw
  | own l=>
   simp only [m_,Option.some.injEq,Prod.mk.injEq] at hrw
   obtain ⟨rfl,rfl⟩:=hrw
   have hop:∃t a x,o.op=.store t a x:=by
    generalize o.op=op at hc
    cases op with
    | store t a x=>exact ⟨t,a,x,rfl⟩
    | call c=>obtain ⟨BZ,args,ts⟩:=c;cases BZ with
     | builtin b=>cases b<;>cases hc
     | value f=>cases f with
      | func f=>simp only [aV] at hc;split at hc<;>(try split at hc)<;>(try split at hc)<;>(try split at hc)<;>cases hc
      | _=>cases hc
     | _=>cases hc
    | _=>cases hc
   obtain ⟨t,a,y,hop⟩:=hop
   unfold bV at hv
   dsimp only at hv
   split at hv
   ·rename_i xs hxs
    split at hv
    ·rename_i hsub
     have ew:∀v,st.aS a=some v->∀s∈v.ids,s∈l:=by
      intro v qZ s hs
      rw [rX] at hsub
      apply hsub
      rw [hop] at hxs
      obtain ⟨u,hu,hm⟩:=og hxs a (by simp [fI])
      rw [hop]
      simp only [dw]
      rw [qZ] at hu
      cases hu
      exact List.mem_flatMap.2 ⟨_,hm,hs⟩
     refine core (fun st2 hs hb=>?_) (fun sc b x hQ=>?_) (fun sc s b hQ=>?_) (fun st2 V2 K2 hs hb=>?_) hv
     ·rw [hop] at hs ⊢
      rw [kk (ρ':=st.aS) fun x hx=>kO hs hx]
      simp only [aH]
      split
      ·rename_i i v w hi DJ hw
       exact (Dq fun s hs'=>hb s (ew v DJ s hs')).symm
      ·rfl
     ·have:=lW (LF:=LF) (RF:=RF) (op:=o.op) (T:=T) (ρ:=st.aS) (bx:=st.boxes) (by rw [hQ];rfl)
      rw [hop] at this;cases this
     ·rw [hop] at hQ
      simp only [aH] at hQ
      split at hQ
      ·rename_i i v w hi DJ hw
       exact ew v DJ s (Bg hQ)
      ·cases hQ
     ·unfold bV
      dsimp only
      rw [vh hs,hxs]
      dsimp only
      have:dw st2.boxes o.op (xs.flatMap SV.ids)=dw st.boxes o.op (xs.flatMap SV.ids):=by rw [hop];rfl
      rw [this,hsub]
      exact hb
    ·exact hv.elim
   ·exact hv.elim
 | _=>cases hq
end Go.bo
namespace Go.bo
variable {P:Program} {T:cw} {LF RF:List Nat} {m:CM}
def Good (p:Nat->Option SV)(q:Nat->Option aO)(W D:List Nat)(st:St)(V:View)(K:St->View->Prop):St->View->Prop:=
 fun st2 V2=>V.Le V2/\(∀t,t∉D->st2.aq t=st.aq t)/\(∀s,s∉W->st2.boxes s=st.boxes s)/\K (ov p q st2) V2
theorem mu {bx bx':Nat->Option aO}:∀{l:List Nat},(∀s∈l,bx' s=bx s)->l.flatMap (jg bx')=l.flatMap (jg bx)
 | [],_=>rfl
 | s::r,h=>by
  simp only [List.flatMap_cons]
  rw [mu fun s hs=>h s (by simp [hs])]
  simp only [jg]
  rw [h s (by simp)]
theorem km {bx bx':Nat->Option aO}:∀(n:Nat)(l:List Nat),(∀s∈reach bx n l,bx' s=bx s)->reach bx' n l=reach bx n l
 | 0,_,_=>rfl
 | n+1,l,h=>by
  have hl:∀s∈l,bx' s=bx s:=fun s hs=>h s (dz (n+1) l s hs)
  simp only [reach] at h ⊢
  rw [mu hl]
  exact km n _ h
theorem tC {bx bx':Nat->Option aO}{l:List Nat}(h:∀s∈l,bx' s=bx s):fv bx' l=fv bx l:=by
 unfold fv
 rw [Bool.eq_iff_iff,List.all_eq_true,List.all_eq_true]
 constructor
 ·intro g s hs;have:=g s hs;simp only [jg] at this ⊢;rw [h s hs] at this;exact this
 ·intro g s hs;have:=g s hs;simp only [jg] at this ⊢;rw [h s hs];exact this
theorem gf:∀{L:List Nat} {β:Nat->Nat} {k k':(Nat->Nat)->Prop},(∀β,k β->k' β)->jR L β k->jR L β k'
 | [],_,_,_,h,g=>h _ g
 | _::_,_,_,_,h,g=>fun b=>gf h (g b)
theorem rF {bx bx':Nat->Option aO}{b:aO}{β:Nat->Nat}{s:Nat}:∀{r:List Nat} {k k':Prop},(∀t∈r,bx' t=bx t)->(k->k')->HB bx b β s r k->HB bx' b β s r k'
 | [],_,_,_,h,g=>h g
 | t::r,k,k',hb,h,g=>by
  have hr:=fun t ht=>hb t (List.mem_cons_of_mem _ ht)
  simp only [HB] at g ⊢
  rw [hb t (by simp)]
  cases hbq:Nat.beq s t with
  | true=>rw [hbq] at g;exact rF hr h g
  | false=>
   rw [hbq] at g
   simp only [cond_false] at g ⊢
   split at g
   ·exact fun hn=>rF hr h (g hn)
   ·exact g
theorem gK {bx bx':Nat->Option aO}{β:Nat->Nat}{V:View}:∀{L:List Nat} {k k':Prop},(∀s∈L,bx' s=bx s)->((∀s∈L,∃b,bx s=some b/\(b.live->V.H (β s)))->k->k')->fO bx β V L k->fO bx' β V L k'
 | [],_,_,_,h,g=>h (fun s hs=>absurd hs (by simp)) g
 | s::r,k,k',hb,h,g=>by
  have hr:=fun t ht=>hb t (List.mem_cons_of_mem _ ht)
  simp only [fO] at g ⊢
  rw [hb s (by simp)]
  split at g
  ·rename_i b hbs
   refine fun h1 h2=>gK hr (fun hf=>rF hr (fun hk=>h (fun t ht=>?_) hk)) (g h1 h2)
   rcases List.mem_cons.1 ht with rfl|ht
   ·exact ⟨b,hbs,dR.1 h2⟩
   ·exact hf t ht
  ·exact g
theorem hZ {mv:Option (Nat×Nat)}:∀{cs zs:List C} {K K':List C->Prop},(∀c,K c->K' c)->jw mv cs zs K->jw mv cs zs K'
 | [],_,_,_,h,g=>h _ g
 | _::_,[],_,_,_,g=>g.elim
 | c::r,z::zr,K,K',h,g=>by
  simp only [jw] at g ⊢
  split at g
  ·split at g
   ·split at g
    ·obtain ⟨n,c,g⟩:=g
     exact ⟨n,c,hZ (fun cs hk=>h _ hk) g⟩
    ·exact g.elim
   ·exact g.elim
  ·split at g
   ·obtain ⟨v,h1,h2⟩:=sW.split _ g
    rename_i hc
    rw [hc] at *
    exact h2 _ (hZ (fun cs hk=>h _ hk) h1)
   ·exact hZ (fun cs hk=>h _ hk) g
variable {p:Nat->Option SV} {q:Nat->Option aO}
theorem ia {mv:Option (Nat×Nat)}{β:Nat->Nat}{V:View}{W:List Nat}:∀{L:List Nat} {st:St} {k k':St->Prop},(∀s∈L,q s=none/\s∈W) ->
  (∀st',(∀t,st'.aq t=st.aq t)->(∀s,s∉W->st'.boxes s=st.boxes s)->k (ov p q st')->k' st')->dh T mv β V L (ov p q st) k->dh T mv β V L st k'
 | [],st,k,k',_,h,g=>h st (fun _=>rfl) (fun _ _=>rfl) g
 | s::r,st,k,k',hq,h,g=>by
  obtain ⟨Il,J5⟩:=hq s (by simp)
  have hr:∀s∈r,q s=none/\s∈W:=fun s hs=>hq s (by simp [hs])
  have H8:∀b:aO,∀k1:St->Prop,(∀st',k1 st'=k st')->dh T mv β V r ((ov p q st).box s b) k1->dh T mv β V r (st.box s b) k':=by
   intro b k1 hk1 g
   rw [jC Il] at g
   refine ia hr (fun st' h1 h2 hk=>h st' h1 (fun s' hs'=>?_) (by rw [←hk1];exact hk)) g
   rw [h2 s' hs',ah,if_neg (fun e=>hs' (by rw [e];exact J5))]
  simp only [dh] at g ⊢
  rw [bR Il] at g
  split at g
  ·rename_i cs ty hb
   split at g
   ·rename_i i hi
    exact hZ (fun cs' hk=>⟨hk.1,H8 _ _ (fun _=>rfl) hk.2⟩) g
   ·exact g
  ·obtain ⟨vs,h1,h2⟩:=g
   exact ⟨vs,h1,H8 _ _ (fun _=>rfl) h2⟩
  ·obtain ⟨h0,vs,h3,h1,h2⟩:=g
   exact ⟨h0,vs,h3,h1,H8 _ _ (fun _=>rfl) h2⟩
  ·exact g
theorem qe (V:View)(l:List Nat):V.Le (V.bU l):=fun _ _ h=>h
theorem Ce (V:View):V.Le V.shut:=fun _ _ h=>h
theorem EL {V V' dJ:View}{P:Prop}{b:Nat}(h:V.Le dJ)(h':V.Le V')(hb:P->V'.w.heap.size<=b\/V'.H b):V.Le (dJ.shut.oS P b):=by
 intro x o hx
 obtain ⟨h1,h2⟩:=h x o hx
 obtain ⟨h3,h4⟩:=h' x o hx
 refine ⟨fun hh=>?_,h2⟩
 rcases hh with hh|⟨hp,e,-⟩
 ·exact h1 hh
 ·subst e
  rcases hb hp with h5|h5
  ·have:=aw h4;omega
  ·exact h3 h5
theorem EY {m:Option Nat}{d:Nat}:dL m d=d\/dL m d=d+200000:=by
 cases m with
 | none=>exact .inl rfl
 | some m=>
  simp only [dL,kY]
  cases Nat.blt m 100000 with
  | true=>exact .inl rfl
  | false=>exact .inr rfl
theorem lQ {give:Bool}{sh:Sh}{L:List Nat}{mm:Option Nat}{d:Nat}{ety:TypeId}{β:Nat->Nat}{st:St}{V V' dJ:View}{K K':St->View->Prop}{W D:List Nat}{r':Value}
  (hL:∀s∈L,q s=none/\s∈W)(hm:∀k,mm=some k->k∈L)(hp:p d=none/\d∈D)(hq:q (dL mm d)=none/\dL mm d∈W)(hV:V.Le V')(hV2:V.Le dJ)
  (hlv:∀s∈L,∃b,st.boxes s=some b/\(b.live->V'.H (β s)))(hK:∀s2 V2,Good p q W D st V K s2 V2->K' s2 V2)
  (h:bM T give sh L mm d ety β (ov p q st) V' K r' dJ):bM T give sh L mm d ety β st V' K' r' dJ:=by
 unfold bM at h ⊢
 obtain ⟨b',vs',h1,h2,h3⟩:=h
 have h2':vs'≠[]->V'.w.heap.size<=b'\/sS mm st β b':=by
  intro hne
  refine (h2 hne).imp id fun h=>?_
  unfold sS at h ⊢
  cases mm with
  | none=>exact h
  | some k=>
   dsimp only at h ⊢
   rw [bR (hL k (hm k rfl)).1] at h
   exact h
 have nZ:vs'≠[]->V'.w.heap.size<=b'\/V'.H b':=by
  intro hne
  refine (h2' hne).imp id fun h=>?_
  unfold sS at h
  cases mm with
  | none=>exact h.elim
  | some k=>
   dsimp only at h
   obtain ⟨b0,hb0,hHk⟩:=hlv k (hm k rfl)
   rw [hb0] at h
   obtain ⟨cs,ty⟩:=b0
   cases cs with
   | lit cs=>have h:b'=β k:=h;rw [h];exact hHk bX
   | row cs=>have h:b'=β k:=h;rw [h];exact hHk bK
   | aT vs=>have h:vs≠[]/\b'=β k:=h;rw [h.2];exact hHk (ef h.1)
 refine ⟨b',vs',h1,h2',Sh.mono h3 fun x hx=>⟨hx.1,?_⟩⟩
 have e1:(mM mm ety (ov p q st)).box (dL mm d) ⟨.aT vs',ety⟩=ov p q ((mM mm ety st).box (dL mm d) ⟨.aT vs',ety⟩):=by
  cases mm with
  | none=>exact jC hq.1
  | some k=>
   simp only [mM]
   rw [jC (hL k (hm k rfl)).1,jC hq.1]
 have hx2:=hx.2
 rw [e1] at hx2
 have hsub:∀s∈Cf mm L,q s=none/\s∈W:=by
  intro s hs
  cases mm with
  | none=>exact hL s hs
  | some k=>exact hL s (rC.1 hs).1
 refine ia hsub (fun st' g1 g2 hk=>?_) hx2
 rw [iA (fun k hk=>by cases hk;exact hp.1)] at hk
 refine hK _ _ ⟨EL hV2 hV nZ,?_,?_,hk⟩
 ·intro t ht
  rw [cC,if_neg (fun e=>ht (by rw [e];exact hp.2)),g1]
  cases mm<;>rfl
 ·intro s hs
  show st'.boxes s=_
  rw [g2 s hs,ah,if_neg (fun e=>hs (by rw [e];exact hq.2))]
  cases mm with
  | none=>rfl
  | some k=>simp only [mM];rw [ah,if_neg (fun e=>hs (by rw [e];exact (hL k (hm k rfl)).2))]
theorem ES {bx:Nat->Option aO}{L:List Nat}(hcl:fv bx L=true):∀k,k∈mU bx L->k∈L:=by
 intro k hk
 unfold mU at hk
 obtain ⟨s,hs,hk⟩:=List.mem_flatMap.1 (bq.1 hk)
 split at hk
 ·rename_i cs ty hb
  refine fx hcl hs hb k ?_
  have:∀cs:List C,k∈lR cs->k∈cs.flatMap C.ids:=by
   intro cs
   induction cs with
   | nil=>exact fun h=>nomatch h
   | cons c r ih=>
    intro h
    rw [List.flatMap_cons,List.mem_append]
    cases c<;>simp only [lR,List.mem_cons] at h<;>first
     | exact .inr (ih h)
     | (rcases h with h|h
        ·left;simp [C.ids,h]
        ·exact .inr (ih h))
  exact this cs hk
 ·cases hk
theorem qU {xs:List SV}:∀k,k∈jy xs->k∈xs.flatMap SV.ids:=by
 intro k
 induction xs with
 | nil=>exact fun h=>nomatch h
 | cons x r ih=>
  intro h
  rw [List.flatMap_cons,List.mem_append]
  unfold jy at h
  split at h
  ·rename_i heq;cases heq
  ·rename_i s n c r' heq;cases heq;exact .inl h
  ·rename_i s n c r' heq;cases heq;exact .inl h
  ·cases h
  ·rename_i heq;cases heq;exact .inr (ih h)
theorem oZ {bx bx':Nat->Option aO}{L:List Nat}(h:∀s∈L,bx' s=bx s):mU bx' L=mU bx L:=by
 unfold mU
 congr 1
 induction L with
 | nil=>rfl
 | cons s r ih=>simp only [List.flatMap_cons];rw [h s (by simp),ih fun s hs=>h s (by simp [hs])]
theorem fT {st:St}{mm:Option Nat}{d:Nat}(h:q (dL mm d)=none):iz (ov p q st) mm d=iz st mm d:=by
 unfold iz;rw [bR h]
theorem oW {bx bx':Nat->Option aO}{β:Nat->Nat}{N:Nat}{L:List Nat}(h:∀s∈L,bx' s=bx s):L.map (cL bx' β N)=L.map (cL bx β N):=
 List.map_congr_left fun s hs=>by unfold cL;rw [h s hs]
theorem fZ {f:FuncId}{xs:List SV}{ty:TypeId}{dst:Option Nat}{st:St}{V:View}{K:St->View->Prop}{W D:List Nat}
  (hm:m=.none\/((m=.bU\/m=.give)/\(∀s∈reach (ov p q st).boxes 3 (dedup (xs.flatMap SV.ids)),q s=none/\s∈W)/\∀k,dst=some k->∀mm,q (dL mm k)=none/\dL mm k∈W))(hd:∀k,dst=some k->p k=none/\k∈D)
  {K':St->View->Prop}(hK:∀s2 V2,Good p q W D st V K s2 V2->K' s2 V2)(hv:dU P T m f xs ty dst (ov p q st) V K):dU P T m f xs ty dst st V K':=by
 have hput:∀(st':St)(x:SV),(∀t,st'.aq t=st.aq t)->∀t,t∉D->(st'.put dst x).aq t=st.aq t:=by
  intro st' x h t ht
  cases dst with
  | none=>exact h t
  | some d=>rw [cC,if_neg (fun e=>ht (by rw [e];exact (hd d rfl).2))];exact h t
 have hbx:∀(st':St)(x:SV),(st'.put dst x).boxes=st'.boxes:=by intro st' x;cases dst<;>rfl
 unfold dU at hv ⊢
 split at hv
 ·exact hv.elim
 ·rename_i sh hsh
  have hre:∀L,reach (ov p q st).boxes 3 (dedup (xs.flatMap SV.ids))=L->(∀s∈L,q s=none)->reach st.boxes 3 (dedup (xs.flatMap SV.ids))=L:=by
   intro L hL Rb
   rw [←hL]
   exact km 3 _ fun s hs=>(bR (Rb s (by rw [←hL];exact hs))).symm
  have Hw:∀s∈xs.flatMap SV.ids,s∈reach (ov p q st).boxes 3 (dedup (xs.flatMap SV.ids)):=fun s hs=>dz 3 _ s (bq.2 hs)
  generalize hr:reach (ov p q st).boxes 3 (dedup (xs.flatMap SV.ids))=L at hv hm Hw
  cases L with
  | nil=>
   rw [hre _ hr (fun s hs=>nomatch hs)]
   have plain:(∀V':View,V.Le V'->ab P f (aQ (fun _=>0) xs) V' fun r dJ=>sh.ex fun x=>r=x.den (fun _=>0)/\K ((ov p q st).put dst x) dJ) ->
     ∀V':View,V.Le V'->ab P f (aQ (fun _=>0) xs) V' fun r dJ=>sh.ex fun x=>r=x.den (fun _=>0)/\K' (st.put dst x) dJ:=by
    intro hv V' hV'
    refine (hv V' hV').mono fun r dJ hle hk=>Sh.mono hk fun x hx=>⟨hx.1,?_⟩
    have h2:=hx.2
    rw [iA (fun k hk=>(hd k hk).1)] at h2
    exact hK _ _ ⟨hV'.trans hle,hput st x fun _=>rfl,fun s _=>by rw [hbx],h2⟩
   rcases hm with rfl|⟨rfl|rfl,-,hnb⟩
   ·exact plain hv
   ·exact plain hv
   ·dsimp only at hv ⊢
    split at hv
    ·rename_i d ety hgt
     rw [fT (hnb d rfl Option.none).1] at hv
     split at hv
     ·exact hv.elim
     ·rename_i hfree
      intro V' hV'
      refine (hv V' hV').mono fun r dJ hle hk=>?_
      exact lQ (W:=W) (D:=D) (fun s hs=>absurd hs (by simp)) (fun k hk=>by cases hk) (hd d rfl) (hnb d rfl Option.none) hV' (hV'.trans hle) (fun s hs=>absurd hs (by simp)) hK hk
    ·exact hv.elim
  | cons s r=>
   dsimp only at hv
   split at hv
   ·exact hv.elim
   ·rename_i hcl
    have bU:m=.bU\/m=.give->(∀t∈s::r,q t=none/\t∈W)->(∀k,dst=some k->∀mm,q (dL mm k)=none/\dL mm k∈W) ->
      ∀{give:Bool} {mm:Option Nat} {d:Nat} {ety:TypeId},dst=some d->(∀k,mm=some k->k∈s::r) ->
      (∀V':View,V.Le V'->jR (s::r) (fun _=>0) fun β=>fO (ov p q st).boxes β V' (s::r) (ab P f (aQ β xs) (V'.bU ((s::r).map (cL (ov p q st).boxes β V'.w.heap.size))) (bM T give sh (s::r) mm d ety β (ov p q st) V' K))) ->
      ∀V':View,V.Le V'->jR (s::r) (fun _=>0) fun β=>fO st.boxes β V' (s::r) (ab P f (aQ β xs) (V'.bU ((s::r).map (cL st.boxes β V'.w.heap.size))) (bM T give sh (s::r) mm d ety β st V' K')):=by
     intro _ hmm hnb give mm d ety hdst MR hv V' hV'
     have yB:∀t∈s::r,st.boxes t=(ov p q st).boxes t:=fun t ht=>(bR (hmm t ht).1).symm
     refine gf (fun β hb=>?_) (hv V' hV')
     rw [oW (bx:=(ov p q st).boxes) yB]
     refine gK (bx:=(ov p q st).boxes) yB (fun hH hfn=>?_) hb
     refine hfn.mono fun r' dJ hle hk=>?_
     have hle2:V.Le dJ:=(hV'.trans (qe V' _)).trans hle
     exact lQ hmm MR (hd d hdst) (hnb d hdst mm) hV' hle2 (fun t ht=>by rw [yB t ht];exact hH t ht) hK hk
    have base:m=.bU\/m=.give->(∀t∈s::r,q t=none/\t∈W)/\(∀k,dst=some k->∀mm,q (dL mm k)=none/\dL mm k∈W):=by
     intro h
     rcases hm with rfl|⟨-,h1,h2⟩
     ·rcases h with h|h<;>cases h
     ·exact ⟨h1,h2⟩
    have OP:(∀t∈s::r,q t=none/\t∈W)->fv st.boxes (s::r)=true:=fun hmm=>by
     rw [tC (bx:=(ov p q st).boxes) (fun t ht=>(bR (hmm t ht).1).symm)];exact hcl
    split at hv
    ·exact hv.elim
    ·exact hv.elim
    ·
     obtain ⟨hmm,hnb⟩:=base (.inr rfl)
     rw [hre _ hr (fun t ht=>(hmm t ht).1)]
     dsimp only
     rw [OP hmm]
     dsimp only
     have hmv:=oZ (bx:=(ov p q st).boxes) (bx':=st.boxes) (L:=s::r) (fun t ht=>(bR (hmm t ht).1).symm)
     rw [hmv]
     split at hv
     ·rename_i d ety h1 h2 h3
      rw [fT (hnb d rfl _).1] at hv
      split at hv
      ·exact hv.elim
      ·rename_i hfree
       exact bU (.inr rfl) hmm hnb rfl (fun k hk=>by cases hk) hv
     ·rename_i d ety k h1 h2 h3
      rw [fT (hnb d rfl _).1] at hv
      split at hv
      ·exact hv.elim
      ·rename_i hfree
       exact bU (.inr rfl) hmm hnb rfl (fun j hj=>by cases hj;exact Hw k (qU k (by rw [h2];simp))) hv
     ·exact hv.elim
    ·
     obtain ⟨hmm,hnb⟩:=base (.inl rfl)
     rw [hre _ hr (fun t ht=>(hmm t ht).1)]
     dsimp only
     rw [OP hmm]
     dsimp only
     have yB:∀t∈s::r,st.boxes t=(ov p q st).boxes t:=fun t ht=>(bR (hmm t ht).1).symm
     have hmv:=oZ (bx:=(ov p q st).boxes) (bx':=st.boxes) (L:=s::r) yB
     rw [hmv]
     split at hv
     ·intro V' hV'
      refine gf (fun β hb=>?_) (hv V' hV')
      rw [oW (bx:=(ov p q st).boxes) yB]
      refine gK (bx:=(ov p q st).boxes) yB (fun _ hfn=>?_) hb
      refine hfn.mono fun r' dJ hle hk=>Sh.mono hk fun x hx=>⟨hx.1,?_⟩
      refine ia hmm (fun st' h1 h2 hk=>?_) hx.2
      rw [iA (fun k hk=>(hd k hk).1)] at hk
      exact hK _ _ ⟨((hV'.trans (qe V' _)).trans hle).trans (Ce _),hput st' x h1,fun t ht=>by rw [hbx];exact h2 t ht,hk⟩
     ·rename_i k hk
      have Ig:k∈s::r:=ES hcl k (by rw [hk];simp)
      have hty:iM st.boxes k=iM (ov p q st).boxes k:=by unfold iM;rw [yB k Ig]
      rw [hty]
      split at hv
      ·rename_i d ety hbt
       rw [fT (hnb d rfl _).1] at hv
       split at hv
       ·exact hv.elim
       ·rename_i hfree
        exact bU (.inl rfl) hmm hnb rfl (fun j hj=>by cases hj;exact Ig) hv
      ·exact hv.elim
     ·exact hv.elim
    ·rcases hm with h|h
     ·cases h
     ·rcases h.1 with h|h<;>cases h
theorem zk {bx:Nat->Option aO}:∀(n:Nat) {l l':List Nat},(∀x∈l,x∈l')->∀x∈reach bx n l,x∈reach bx n l'
 | 0,_,_,h,x,hx=>h x hx
 | n+1,l,l',h,x,hx=>by
  simp only [reach] at hx ⊢
  refine zk n (fun y hy=>?_) x hx
  rw [bq,List.mem_append] at hy ⊢
  rcases hy with hy|hy
  ·exact .inl (h y hy)
  ·obtain ⟨z,hz,hy⟩:=List.mem_flatMap.1 hy
   exact .inr (List.mem_flatMap.2 ⟨z,h z hz,hy⟩)
theorem pt {f:FuncId}{xs:List SV}{ty:TypeId}{dst:Option Nat}{st:St}{V:View}{K:St->View->Prop}{W D:List Nat}
  (hm:m=.none\/((m=.bU\/m=.give)/\(∀s∈reach (ov p q st).boxes 3 (dedup (xs.flatMap SV.ids)),q s=none/\s∈W)/\∀k,dst=some k->∀mm,q (dL mm k)=none/\dL mm k∈W))(hd:∀k,dst=some k->p k=none/\k∈D)
  {K':St->View->Prop}(hK:∀s2 V2,Good p q W D st V K s2 V2->K' s2 V2)(hv:iE P T m f xs ty dst (ov p q st) V K):iE P T m f xs ty dst st V K':=by
 have hm0:=hm
 cases m with
 | bU=>
  obtain ⟨h1,h2⟩:(∀s∈reach (ov p q st).boxes 3 (dedup (xs.flatMap SV.ids)),q s=none/\s∈W)/\∀k,dst=some k->∀mm,q (dL mm k)=none/\dL mm k∈W:=by
   rcases hm with h|⟨-,h1,h2⟩
   ·cases h
   ·exact ⟨h1,h2⟩
  unfold iE at hv ⊢
  dsimp only at hv ⊢
  rw [nh (bx:=st.boxes) (bx':=(ov p q st).boxes) (fun s hs=>bR (h1 s (dz 3 _ s (bq.2 hs))).1)] at hv
  split at hv
  ·rename_i vs c xs' e
   exact ⟨fun he=>⟨(hv.1 he).1,fZ (.inr ⟨.inl rfl,fun s hs=>h1 s (zk 3 (fun x hx=>bq.2 (rU e x (bq.1 hx))) s hs),h2⟩) hd hK (hv.1 he).2⟩,fun he=>fZ hm0 hd hK (hv.2 he)⟩
  ·exact fZ hm0 hd hK hv
 | _=>exact fZ hm0 hd hK hv
theorem wI {p2:Nat->Option SV}{q2:Nat->Option aO}{st:St}(hp:∀t,p t=none\/p2 t=none)(hq:∀t,q t=none\/q2 t=none):ov p q (ov p2 q2 st)=ov p2 q2 (ov p q st):=by
 unfold ov
 congr 1
 ·funext t
  dsimp only
  rcases hp t with h|h<;>rw [h]
 ·funext t
  dsimp only
  rcases hq t with h|h<;>rw [h]
def vP:Q->Option Nat
 | .app old _ _ _ _ _ _ _ _=>old
 | .oc s _ _ _ _ _ _ _=>some s
 | _=>none
def Cn (T:cw)(bx:Nat->Option aO)(l:Option (List SV))(ts:List TypeId):Q:=
 match l,ts with
 | some [b,x],[t,t']=>match au T t,au T t' with
  | some i,some i'=>match i.k,i'.k with
   | .slice e,.slice _=>match au T e with
    | some ei=>bG bx e ei b x
    | none=>.fail
   | _,_=>.fail
  | _,_=>.fail
 | _,_=>.fail
def vQ (bx:Nat->Option aO)(sz:Nat)(x:SV):Option (OA×Nat ⊕ List Value):=
 match x with
 | .c (.v (.slice a k _))=>some (.inl (a,k))
 | .c (.jY s o k _)=>match bx s with
  | some ⟨.row ws,_⟩=>some (.inr (ig ws o (k*sz)))
  | _=>match dp bx s with
   | some ws=>if Nat.ble (o+k*sz) ws.length then some (.inr ((ws.drop o).take (k*sz))) else none
   | none=>none
 | _=>none
def BV (bx:Nat->Option aO)(e:TypeId)(ei:TI)(b:SV)(src:OA×Nat ⊕ List Value):Q:=
 match b with
 | .c (.v (.slice a n c))=>.app none a [] n c src ei.size ei.bytes e
 | .c (.jY s 0 n c)=>match dp bx s,iM bx s with
  | some vs,some ty=>if Nat.beq ty e then .app (some s) none vs n c src ei.size ei.bytes e else .fail
  | _,_=>.fail
 | .c (.iH s n c)=>match bx s with
  | some ⟨.aT vs,ty⟩=>if Nat.beq ty e then .oc s vs n c src ei.size ei.bytes e else .fail
  | _=>.fail
 | _=>.fail
theorem rL {bx:Nat->Option aO}{e:TypeId}{ei:TI}{b x:SV}:bG bx e ei b x=match i_ ei.zero with
  | none=>.fail
  | some zs=>if Nat.beq ei.bytes 0||Nat.beq ei.size 0||!(Nat.beq ei.size zs.length) then .fail else match vQ bx ei.size x with
   | none=>.fail
   | some src=>BV bx e ei b src:=rfl
theorem CG {bx bx':Nat->Option aO}{sz:Nat}{x:SV}:(∀s∈x.ids,bx' s=bx s)->vQ bx sz x=vQ bx' sz x:=by
 unfold vQ
 split
 ·exact fun _=>rfl
 ·intro h;unfold dp;rw [h _ (by simp [SV.ids,C.ids])]
 ·exact fun _=>rfl
theorem DV {bx bx':Nat->Option aO}{e:TypeId}{ei:TI}{b:SV}{src:OA×Nat ⊕ List Value}:(∀s∈b.ids,bx' s=bx s)->BV bx e ei b src=BV bx' e ei b src:=by
 unfold BV
 split
 ·exact fun _=>rfl
 ·intro h;unfold dp iM;rw [h _ (by simp [SV.ids,C.ids])]
 ·intro h;rw [h _ (by simp [SV.ids,C.ids])]
 ·exact fun _=>rfl
theorem A_ {bx bx':Nat->Option aO}{e:TypeId}{ei:TI}{b x:SV}(h:∀s∈b.ids++x.ids,bx' s=bx s):bG bx e ei b x=bG bx' e ei b x:=by
 rw [rL,rL,CG fun s hs=>h s (List.mem_append_right _ hs)]
 have:=fun src=>DV (bx:=bx) (bx':=bx') (e:=e) (ei:=ei) (b:=b) (src:=src) fun s hs=>h s (List.mem_append_left _ hs)
 simp only [this]
theorem zd {bx:Nat->Option aO}{e:TypeId}{ei:TI}{b x:SV}:∀s,vP (bG bx e ei b x)=some s->s∈b.ids:=by
 intro s h
 unfold bG at h
 split at h
 ·cases h
 ·split at h
  ·cases h
  ·dsimp only at h
   split at h
   ·cases h
   ·split at h
    ·cases h
    ·split at h
     ·split at h
      ·cases h;simp [SV.ids,C.ids]
      ·cases h
     ·cases h
    ·split at h
     ·split at h
      ·cases h;simp [SV.ids,C.ids]
      ·cases h
     ·cases h
    ·cases h
theorem GX {bx bx':Nat->Option aO}{ys:List SV}{ts:List TypeId}{R:List Nat}(h:∀s∈ys.flatMap SV.ids,bx' s=bx s)(hR:∀s∈ys.flatMap SV.ids,s∈R) :
  Cn T bx (some ys) ts=Cn T bx' (some ys) ts/\∀s,vP (Cn T bx (some ys) ts)=some s->s∈R:=by
 unfold Cn
 split
 ·rename_i b x t t' hb
  cases hb
  split
  ·split
   ·split
    ·exact ⟨A_ fun s hs=>h s (by simpa using hs),fun s hs=>hR s (by simp [zd s hs])⟩
    ·exact ⟨rfl,fun s hs=>nomatch hs⟩
   ·exact ⟨rfl,fun s hs=>nomatch hs⟩
  ·exact ⟨rfl,fun s hs=>nomatch hs⟩
 ·exact ⟨rfl,fun s hs=>nomatch hs⟩
theorem Dk {bx:Nat->Option aO}{e:TypeId}{ei:TI}{b x:SV}:cx (bG bx e ei b x)=6\/bG bx e ei b x=.fail:=by
 unfold bG
 split
 ·exact .inr rfl
 ·split
  ·exact .inr rfl
  ·dsimp only
   split
   ·exact .inr rfl
   ·split<;>(try split)<;>(try split)<;>first|exact .inl rfl|exact .inr rfl
theorem Fi {ρ:Operand->Option SV}{bx:Nat->Option aO}{args:Array Operand}{ts:Array TypeId}:cx (aH T ρ bx (.call ⟨.builtin .append,args,ts⟩))=6\/aH T ρ bx (.call ⟨.builtin .append,args,ts⟩)=.fail:=by
 simp only [aH]
 split
 ·split
  ·split
   ·split
    ·exact Dk
    ·exact .inr rfl
   ·exact .inr rfl
  ·exact .inr rfl
 ·exact .inr rfl
theorem xd {Q0:Q}{dst:Option Nat}{st:St}{V:View}{K K':St->View->Prop}{W D:List Nat}(ht:cx Q0=6\/Q0=.fail)
  (ho:∀s,vP Q0=some s->q s=none/\s∈W)(hd:∀k,dst=some k->(p k=none/\k∈D)/\∀s,q (kY s k)=none/\kY s k∈W)(hd0:∀k,dst=some k->q k=none/\k∈W)
  (hK:∀s2 V2,Good p q W D st V K s2 V2->K' s2 V2)(h:pI Q0 dst (ov p q st) V K):pI Q0 dst st V K':=by
 cases Q0 with
 | oc s vs n c x size bytes ty=>
  simp only [pI] at h ⊢
  cases dst with
  | none=>exact h.elim
  | some d=>
   dsimp only at h ⊢
   obtain ⟨⟨hp,hD⟩,hn⟩:=hd d rfl
   obtain ⟨hs,J5⟩:=ho s rfl
   have core:∀k xs,oX s vs n c size bytes ty d (ov p q st) V K k xs->oX s vs n c size bytes ty d st V K' k xs:=by
    rintro k xs ⟨h1,h2,h3,h4,h5,h6⟩
    refine ⟨h1,h2,h3,h4,h5,?_⟩
    rw [bR (hn s).1] at h6
    split at h6
    ·exact h6.elim
    ·intro spare c' g1 g2
     have:=h6 spare c' g1 g2
     rw [jC hs,jC (hn s).1,iA (fun k hk=>by cases hk;exact hp)] at this
     refine hK _ _ ⟨View.Le.refl V,?_,?_,this⟩
     ·intro t ht;rw [cC,if_neg (fun e=>ht (by rw [e];exact hD))];rfl
     ·intro t ht
      show ((st.box s _).box _ _).boxes t=_
      rw [ah,if_neg (fun e=>ht (by rw [e];exact (hn s).2)),ah,if_neg (fun e=>ht (by rw [e];exact J5))]
   cases x with
   | inr xs=>exact core _ _ h
   | inl ak=>obtain ⟨xs,h1,h2,h3⟩:=h;exact ⟨xs,h1,h2,core _ _ h3⟩
 | app old ba vs n c x size bytes ty=>
  simp only [pI] at h ⊢
  cases dst with
  | none=>exact h.elim
  | some d=>
   dsimp only at h ⊢
   obtain ⟨⟨hp,hD⟩,hn⟩:=hd d rfl
   cases old with
   | some s=>
    dsimp only at h ⊢
    obtain ⟨hs,J5⟩:=ho s rfl
    have core:∀k xs,xK s vs n c size bytes ty d (ov p q st) V K k xs->xK s vs n c size bytes ty d st V K' k xs:=by
     rintro k xs ⟨h1,h2,h3,h4,h5,h6⟩
     refine ⟨h1,h2,h3,h4,h5,?_⟩
     rw [bR (hn s).1] at h6
     split at h6
     ·exact h6.elim
     ·intro b J spare c' g1 g2
      have:=h6 b J spare c' g1 g2
      rw [jC hs,jC (hn s).1,iA (fun k hk=>by cases hk;exact hp)] at this
      refine hK _ _ ⟨View.Le.refl V,?_,?_,this⟩
      ·intro t ht;rw [cC,if_neg (fun e=>ht (by rw [e];exact hD))];rfl
      ·intro t ht
       show ((st.box s _).box _ _).boxes t=_
       rw [ah,if_neg (fun e=>ht (by rw [e];exact (hn s).2)),ah,if_neg (fun e=>ht (by rw [e];exact J5))]
    cases x with
    | inr xs=>exact core _ _ h
    | inl ak=>obtain ⟨xs,h1,h2,h3⟩:=h;exact ⟨xs,h1,h2,core _ _ h3⟩
   | none=>
    dsimp only at h ⊢
    obtain ⟨q1,q2⟩:=hd0 d rfl
    obtain ⟨vs',g1,g2,g3,g4,h⟩:=h
    have core:∀k xs,xL vs' n c size bytes ty d (ov p q st) V K k xs->xL vs' n c size bytes ty d st V K' k xs:=by
     rintro k xs ⟨h1,h2,h3,h4,h5⟩
     refine ⟨h1,h2,h3,h4,?_⟩
     rw [bR q1] at h5
     split at h5
     ·exact h5.elim
     ·intro spare c' k1 k2
      have:=h5 spare c' k1 k2
      rw [jC q1,iA (fun k hk=>by cases hk;exact hp)] at this
      refine hK _ _ ⟨View.Le.refl V,?_,?_,this⟩
      ·intro t ht;rw [cC,if_neg (fun e=>ht (by rw [e];exact hD))];rfl
      ·intro t ht
       show (st.box d _).boxes t=_
       rw [ah,if_neg (fun e=>ht (by rw [e];exact q2))]
    refine ⟨vs',g1,g2,g3,g4,?_⟩
    cases x with
    | inr xs=>exact core _ _ h
    | inl ak=>
     obtain ⟨xs,h1,h2,h3,h4⟩:=h
     refine ⟨xs,h1,h2,fun e=>?_,fun e=>core _ _ (h4 e)⟩
     have:=h3 e
     rw [iA (fun k hk=>by cases hk;exact hp)] at this
     refine hK _ _ ⟨View.Le.refl V,?_,fun t ht=>rfl,this⟩
     intro t ht;rw [cC,if_neg (fun e=>ht (by rw [e];exact hD))]
 | fail=>exact h.elim
 | _=>rcases ht with ht|ht<;>cases ht
theorem nK {h:Hint}{o:Oper}{st:St}{V:View}{K:St->View->Prop}{R W:List Nat}
  (hm:kl (aV LF RF o.op)=true\/(aV LF RF o.op=.call/\m=.none)\/((aV LF RF o.op=.iR/\m=.bU)\/(aV LF RF o.op=.give/\m=.give)\/aV LF RF o.op=.app))
  (hrw:m_ (aV LF RF o.op) h (df o)=some (R,W))(hp:∀t,t∈fJ o.op\/t∈df o->p t=none)(hq:∀s∈R,q s=none)
  (Pg:∀s∈W,q s=none){K':St->View->Prop}(hK:∀s2 V2,Good p q W (df o) st V K s2 V2->K' s2 V2)(hv:bV P T m h o (ov p q st) V K):bV P T m h o st V K':=by
 have AZ:∀t∈fJ o.op,st.aq t=(ov p q st).aq t:=fun t ht=>by simp [ov,hp t (.inl ht)]
 rcases hm with hm|hm
 ·obtain ⟨p2,q2,hO⟩:=kQ hm hrw hv
  refine hO.again st V _ (View.Le.refl V) AZ (fun s hs=>(bR (hq s hs)).symm) ?_
  refine hK _ _ ⟨View.Le.refl V,fun t ht=>by simp [ov,hO.pd t ht],fun s hs=>by simp [ov,hO.qd s hs],?_⟩
  rw [wI]
  ·exact hO.next
  ·intro t
   by_cases h:t∈df o
   ·exact .inl (hp t (.inr h))
   ·exact .inr (hO.pd t h)
  ·intro s
   by_cases h:s∈W
   ·exact .inl (Pg s h)
   ·exact .inr (hO.qd s h)
 ·
  have hval:∀(x:Operand),x∈o.op.operands.toList->(ov p q st).aS x=st.aS x:=fun x hx=>GS fun t e=>hp t (.inl (rB hx e))
  have hdst:∀k,o.dst=some k->p k=none/\k∈df o:=fun k hk=>by
   have:k∈df o:=by simp [df,hk]
   exact ⟨hp k (.inr this),this⟩
  have body:(¬aV LF RF o.op=.app)->∀(hh:∀xs f ss FT args ts,o.op=.call ⟨.value FT,args,ts⟩->bB (ov p q st).aS args.toList=some xs->(ov p q st).aS FT=some (.c (.yk f ss)) ->
    m=.none\/((m=.bU\/m=.give)/\(∀s∈reach (ov p q st).boxes 3 (dedup ((xs++qJ ss).flatMap SV.ids)),q s=none/\s∈W)/\∀k,o.dst=some k->∀mm,q (dL mm k)=none/\dL mm k∈W)),
    cd P T m o (ov p q st) V K->cd P T m o st V K':=by
   intro happ hh hv
   unfold cd at hv ⊢
   split at hv
   ·rename_i FT args ts hop
    have e1:bB (ov p q st).aS args.toList=bB st.aS args.toList:=di _ fun x hx=>hval x (by rw [hop];simp [Op.operands,Call.operands];exact .inr (by simpa using hx))
    have e2:(ov p q st).aS FT=st.aS FT:=hval FT (by rw [hop];simp [Op.operands,Call.operands])
    split at hv
    ·rename_i xs hxs
     split at hv
     ·rename_i f ss hf
      have hmm:=hh _ _ _ _ _ _ hop hxs hf
      rw [e1] at hxs
      rw [e2] at hf
      simp only [hxs,hf]
      exact pt hmm hdst hK hv
     ·exact hv.elim
    ·exact hv.elim
   ·rename_i recv name args ts hop
    have hmn:m=.none:=by
     rw [hop] at hm
     rcases hm with ⟨-,h⟩|⟨h,-⟩|⟨h,-⟩|h
     ·exact h
     ·cases h
     ·cases h
     ·cases h
    have e1:bB (ov p q st).aS args.toList=bB st.aS args.toList:=di _ fun x hx=>hval x (by rw [hop];simp [Op.operands,Call.operands];exact .inr (by simpa using hx))
    have e2:(ov p q st).aS recv=st.aS recv:=hval recv (by rw [hop];simp [Op.operands,Call.operands])
    split at hv
    ·rename_i xs hxs
     split at hv
     ·rename_i t v hf
      split at hv
      ·rename_i f Eu
       rw [e1] at hxs
       rw [e2] at hf
       simp only [hxs,hf,Eu]
       exact pt (.inl hmn) hdst hK hv
      ·exact hv.elim
     ·exact hv.elim
    ·exact hv.elim
   ·rename_i hnc J1
    exfalso
    have hc4:aV LF RF o.op=.call\/aV LF RF o.op=.iR\/aV LF RF o.op=.give:=by
     rcases hm with ⟨h,-⟩|⟨h,-⟩|⟨h,-⟩|h
     ·exact .inl h
     ·exact .inr (.inl h)
     ·exact .inr (.inr h)
     ·exact absurd h happ
    clear hm happ hh
    generalize hop:o.op=op at hc4 hnc J1
    cases op with
    | call c=>
     obtain ⟨BZ,args,ts⟩:=c
     cases BZ with
     | builtin b=>cases b<;>rcases hc4 with h|h|h<;>cases h
     | value f=>exact hnc f args ts rfl
     | invoke r nm=>exact J1 r nm args ts rfl
    | _=>rcases hc4 with h|h|h<;>cases h
  have Nl:∀l:List Nat,W=l++df o++(df o).map (·+ 200000)->∀k,o.dst=some k->∀mm,q (dL mm k)=none/\dL mm k∈W:=by
   intro l hW k hk mm
   have:dL mm k∈W:=by
    rw [hW]
    have hkd:=(hdst k hk).2
    rcases EY (m:=mm) (d:=k) with h|h<;>rw [h]<;>simp [hkd]
   exact ⟨Pg _ this,this⟩
  have own:∀l:List Nat,h=.own l->R=l->W=l++df o++(df o).map (·+ 200000)->(aV LF RF o.op=.iR\/aV LF RF o.op=.give\/aV LF RF o.op=.app)->(¬aV LF RF o.op=.app->m=.bU\/m=.give)->bV P T m h o st V K':=by
   intro l hh hR hW hcl hmm
   subst hh hR
   unfold bV at hv ⊢
   dsimp only at hv ⊢
   split at hv
   ·rename_i ys hys
    split at hv
    ·rename_i hsub
     have e0:bB (ov p q st).aS (fI o.op)=bB st.aS (fI o.op):=di _ fun x hx=>hval x (rA hx)
     rw [←e0,hys]
     dsimp only
     have hin:∀s∈dw (ov p q st).boxes o.op (ys.flatMap SV.ids),s∈R:=rX.1 hsub
     have e3:dw st.boxes o.op (ys.flatMap SV.ids)=dw (ov p q st).boxes o.op (ys.flatMap SV.ids):=by
      revert hin
      unfold dw
      split
      ·intro hin
       exact km 3 _ fun s hs=>(bR (hq s (hin s hs))).symm
      ·exact fun _=>rfl
     rw [e3,hsub]
     dsimp only
     have O_:∀s∈R,s∈W:=fun s hs=>by rw [hW];simp [hs]
     by_cases happ:aV LF RF o.op=.app
     ·
      have hop:∃args ts,o.op=.call ⟨.builtin .append,args,ts⟩:=by
       generalize o.op=op at happ
       cases op with
       | call c=>
        obtain ⟨BZ,args,ts⟩:=c
        cases BZ with
        | builtin b=>cases b<;>first|exact ⟨args,ts,rfl⟩|cases happ
        | value f=>cases f with
         | func f=>simp only [aV] at happ;split at happ<;>(try split at happ)<;>(try split at happ)<;>(try split at happ)<;>cases happ
         | _=>cases happ
        | _=>cases happ
       | _=>cases happ
      obtain ⟨args,ts,hop⟩:=hop
      have e4:aH T st.aS st.boxes o.op=aH T (ov p q st).aS (ov p q st).boxes o.op/\∀s,vP (aH T st.aS st.boxes o.op)=some s->s∈R:=by
       have e5:bB (ov p q st).aS args.toList=bB st.aS args.toList:=by rw [hop] at e0;exact e0
       have M1:bB st.aS args.toList=some ys:=by rw [hop] at hys;rw [←e5];exact hys
       have hin':∀s∈ys.flatMap SV.ids,s∈R:=by
        intro s hs
        refine hin s ?_
        rw [hop]
        simp only [dw]
        exact dz 3 _ s (bq.2 hs)
       rw [hop]
       simp only [aH]
       rw [e5,M1]
       exact GX (fun s hs=>by rw [bR (hq s (hin' s hs))]) hin'
      have hvb:pI (aH T (ov p q st).aS (ov p q st).boxes o.op) o.dst (ov p q st) V K:=by
       unfold cd at hv
       rw [hop] at hv ⊢
       exact hv
      have hgoal:pI (aH T st.aS st.boxes o.op) o.dst st V K'->cd P T m o st V K':=by
       intro h
       unfold cd
       rw [hop] at h ⊢
       exact h
      rw [←e4.1] at hvb
      refine hgoal ?_
      have htag:∀Q0,aH T st.aS st.boxes o.op=Q0->cx Q0=6\/Q0=.fail:=by
       intro Q0 hQ
       rw [←hQ,hop]
       exact Fi
      generalize QU:aH T st.aS st.boxes o.op=Q0 at hvb e4
      exact xd (htag Q0 QU) (fun s hs=>⟨hq s (e4.2 s hs),O_ s (e4.2 s hs)⟩) (fun k hk=>⟨hdst k hk,fun s=>by
       have:=Nl R hW k hk (some s)
       exact this⟩) (fun k hk=>Nl R hW k hk Option.none) hK hvb
     ·have hmode:=hmm happ
      refine body happ (fun xs f ss FT args ts hop hxs hf=>.inr ⟨hmode,fun s hs=>?_,Nl R hW⟩) hv
      have:s∈R:=by
       apply hin
       rw [hop] at hys ⊢
       simp only [dw]
       have hy:ys.flatMap SV.ids=(xs++qJ ss).flatMap SV.ids:=by
        have:∀(l:List Operand)(xs:List SV)(x:Operand)(v:SV),bB (ov p q st).aS l=some xs->(ov p q st).aS x=some v->bB (ov p q st).aS (l++[x])=some (xs++[v]):=by
         intro l
         induction l with
         | nil=>intro xs x v h1 h2;simp only [bB,Option.some.injEq] at h1;subst h1;simp [bB,h2]
         | cons o r ih=>
          intro xs x v h1 h2
          simp only [bB] at h1
          split at h1
          ·rename_i y l' h3 h4
           cases h1
           simp only [List.cons_append,bB,h3,ih _ x v h4 h2]
          ·cases h1
        simp only [fI] at hys
        rw [this _ _ _ _ hxs hf] at hys
        cases hys
        simp only [List.flatMap_append]
        congr 1
        simp [qJ,SV.ids,C.ids,List.flatMap_map]
       rw [hy]
       exact hs
      exact ⟨hq s this,O_ s this⟩
    ·exact hv.elim
   ·exact hv.elim
  rcases hm with ⟨hc,hm⟩|⟨hc,hm⟩|⟨hc,hm⟩|hc
  ·rw [hc] at hrw
   cases h with
   | own l=>cases hrw
   | free=>exact body (by rw [hc];exact fun h=>by cases h) (fun _ _ _ _ _ _ _ _ _=>.inl hm) hv
  ·rw [hc] at hrw
   cases h with
   | free=>cases hrw
   | own l=>
    simp only [m_,Option.some.injEq,Prod.mk.injEq] at hrw
    exact own l rfl hrw.1.symm hrw.2.symm (.inl hc) (fun _=>.inl hm)
  ·rw [hc] at hrw
   cases h with
   | free=>cases hrw
   | own l=>
    simp only [m_,Option.some.injEq,Prod.mk.injEq] at hrw
    exact own l rfl hrw.1.symm hrw.2.symm (.inr (.inl hc)) (fun _=>.inr hm)
  ·rw [hc] at hrw
   cases h with
   | free=>cases hrw
   | own l=>
    simp only [m_,Option.some.injEq,Prod.mk.injEq] at hrw
    exact own l rfl hrw.1.symm hrw.2.symm (.inr (.inr hc)) (fun h=>absurd hc h)
end Go.bo
namespace Go.bo
variable {P:Program} {T:cw} {LF RF:List Nat}
def s_ (ops:Array Oper)(o:Oper)(st:St)(k:St->Bool->Prop):Prop:=
 match o.guard with
 | none=>k st true
 | some (j,b)=>match (ops[j]?).bind (·.dst) with
  | none=>False
  | some g=>match st.aq g with
   | some (.c .tt)=>k st b
   | some (.c .ff)=>k st (!b)
   | some (.c (.v (.bool c)))=>(c=true->k (st.put (some g) (.c .tt)) b)/\(c=false->k (st.put (some g) (.c .ff)) (!b))
   | some (.ml _)=>k st false
   | _=>False
def jM (P:Program)(T:cw)(m:CM)(h:Hint)(o:Oper)(V:View)(K:St->View->Prop)(st:St)(w:Bool):Prop:=
 match w with
 | true=>bV P T m h o st V K
 | false=>K (st.put o.dst gQ) V
theorem w_ {m:CM}{h:Hint}{ops:Array Oper}{o:Oper}{st:St}{V:View}{K:St->View->Prop} :
  nt P T m h ops o st V K↔s_ ops o st (jM P T m h o V K):=by
 unfold nt s_
 cases hg:o.guard with
 | none=>rfl
 | some jb=>
  obtain ⟨j,b⟩:=jb
  dsimp only
  cases hd:(ops[j]?).bind (·.dst) with
  | none=>rfl
  | some g=>
   dsimp only
   split<;>simp_all<;>cases b<;>rfl
def gM:Nat->Option aO:=fun _=>none
structure L9 (ops:Array Oper) (o:Oper) (st:St) (k:St->Bool->Prop) (p:Nat->Option SV) (w:Bool):Prop where
 pd:∀t,t∉cR ops o->p t=none
 next:k (ov p gM st) w
 again:∀(st2:St)(k2:St->Bool->Prop),(∀t∈cR ops o,st2.aq t=st.aq t)->k2 (ov p gM st2) w->s_ ops o st2 k2
theorem ee {ops:Array Oper}{o:Oper}{st:St}{k:St->Bool->Prop}(h:s_ ops o st k):∃p w,L9 ops o st k p w:=by
 unfold s_ at h
 split at h
 ·rename_i hg
  exact ⟨fun _=>none,true,fun _ _=>rfl,h,fun st2 k2 _ hk=>by unfold s_;rw [hg];exact hk⟩
 ·rename_i j b hg
  split at h
  ·exact h.elim
  ·rename_i g hd
   have hgt:cR ops o=[g]:=by simp only [cR,hg,hd]
   split at h
   ·rename_i hs
    exact ⟨fun _=>none,b,fun _ _=>rfl,h,fun st2 k2 ha hk=>by unfold s_;simp only [hg,hd,ha g (by simp [hgt]),hs];exact hk⟩
   ·rename_i hs
    exact ⟨fun _=>none,!b,fun _ _=>rfl,h,fun st2 k2 ha hk=>by unfold s_;simp only [hg,hd,ha g (by simp [hgt]),hs];exact hk⟩
   ·rename_i c hs
    cases c with
    | true=>
     refine ⟨one (some g) (.c .tt),b,fun t ht=>cM (by intro e;apply ht;rw [hgt];simpa using e.symm),?_,fun st2 k2 ha hk=>?_⟩
     ·have:=h.1 rfl;rw [dG] at this;exact this
     ·unfold s_;simp only [hg,hd,ha g (by simp [hgt]),hs]
      exact ⟨fun _=>by rw [dG];exact hk,fun e=>by cases e⟩
    | false=>
     refine ⟨one (some g) (.c .ff),!b,fun t ht=>cM (by intro e;apply ht;rw [hgt];simpa using e.symm),?_,fun st2 k2 ha hk=>?_⟩
     ·have:=h.2 rfl;rw [dG] at this;exact this
     ·unfold s_;simp only [hg,hd,ha g (by simp [hgt]),hs]
      exact ⟨fun e=>(by cases e),fun _=>by rw [dG];exact hk⟩
   ·rename_i xs hs
    exact ⟨fun _=>none,false,fun _ _=>rfl,h,fun st2 k2 ha hk=>by unfold s_;simp only [hg,hd,ha g (by simp [hgt]),hs];exact hk⟩
   ·exact h.elim
theorem ky {ops:Array Oper}{o:Oper}{st:St}{k k':St->Bool->Prop}(hk:∀s w,k s w->k' s w)(h:s_ ops o st k):s_ ops o st k':=by
 obtain ⟨p,w,hO⟩:=ee h
 exact hO.again st k' (fun _ _=>rfl) (hk _ _ hO.next)
theorem put_comm {st:St}{d d':Option Nat}{x y:SV}(h:∀k,d=some k->d'≠some k):(st.put d x).put d' y=(st.put d' y).put d x:=by
 cases d with
 | none=>rfl
 | some d=>
  cases d' with
  | none=>rfl
  | some d'=>
   have hne:d≠d':=fun e=>h d rfl (by rw [e])
   simp only [St.put]
   congr 1
   funext t
   by_cases e:t=d
   ·subst e;simp [Nat.beq_refl,cF hne]
   ·simp [cF e]
theorem AR {ops:Array Oper}{o1 o2:Oper}{st:St}{F:St->Bool->Bool->Prop}(h:s_ ops o1 st fun s w1=>s_ ops o2 s fun s' w2=>F s' w1 w2) :
  s_ ops o2 st fun s w2=>s_ ops o1 s fun s' w1=>F s' w1 w2:=by
 by_cases hsh:∃g,cR ops o1=[g]/\cR ops o2=[g]
 ·obtain ⟨g,e1,e2⟩:=hsh
  unfold cR at e1 e2
  split at e1
  ·cases e1
  ·rename_i j1 b1 hg1
   split at e1
   ·rename_i g1 hd1
    cases e1
    split at e2
    ·cases e2
    ·rename_i j2 b2 hg2
     split at e2
     ·rename_i g2 hd2
      cases e2
      unfold s_ at h ⊢
      simp only [hg1,hg2,hd1,hd2] at h ⊢
      split at h
      ·rename_i hs;exact h
      ·rename_i hs;exact h
      ·rename_i c hs
       simp only [cC,if_true] at h ⊢
       exact h
      ·rename_i xs hs;exact h
      ·exact h.elim
     ·cases e2
   ·cases e1
 ·obtain ⟨p1,w1,h1⟩:=ee h
  obtain ⟨p2,w2,h2⟩:=ee h1.next
  have Kp:∀o:Oper,cR ops o=[]\/∃g,cR ops o=[g]:=by
   intro o;unfold cR
   split
   ·exact .inl rfl
   ·split
    ·exact .inr ⟨_,rfl⟩
    ·exact .inl rfl
  have hdj:∀t,t∈cR ops o1->t∉cR ops o2:=by
   intro t ht1 ht2
   rcases Kp o1 with e1|⟨g1,e1⟩
   ·rw [e1] at ht1;cases ht1
   ·rcases Kp o2 with e2|⟨g2,e2⟩
    ·rw [e2] at ht2;cases ht2
    ·rw [e1] at ht1;rw [e2] at ht2
     simp at ht1 ht2
     exact hsh ⟨t,by rw [e1,ht1],by rw [e2,ht2]⟩
  refine h2.again st _ (fun t ht=>?_) (h1.again _ _ (fun t ht=>?_) ?_)
  ·show st.aq t=(ov p1 gM st).aq t
   simp [ov,h1.pd t (fun h=>hdj t h ht)]
  ·show (ov p2 gM st).aq t=st.aq t
   simp [ov,h2.pd t (hdj t ht)]
  ·have e:ov p1 gM (ov p2 gM st)=ov p2 gM (ov p1 gM st):=wI (fun t=>by
    by_cases ht:t∈cR ops o1
    ·exact .inr (h2.pd t (hdj t ht))
    ·exact .inl (h1.pd t ht)) (fun _=>.inl rfl)
   show F (ov p1 gM (ov p2 gM st)) w1 w2
   rw [e]
   exact h2.next
theorem fR {o:Oper}{k:Nat}(h:o.dst=some k):k∈df o:=by simp [df,h]
theorem GP {ops:Array Oper}{m1 m2:CM}{h1 h2:Hint}{o1 o2:Oper}{st:St}{V:View}{K:St->View->Prop}
  (hi:indep LF RF ops h1 h2 o1 o2=true)
  (hm:kl (aV LF RF o2.op)=true\/(aV LF RF o2.op=.call/\m2=.none)\/((aV LF RF o2.op=.iR/\m2=.bU)\/(aV LF RF o2.op=.give/\m2=.give)\/aV LF RF o2.op=.app))
  (hv:nt P T m1 h1 ops o1 st V fun st1 V1=>nt P T m2 h2 ops o2 st1 V1 K) :
  nt P T m2 h2 ops o2 st V fun st2 V2=>nt P T m1 h1 ops o1 st2 V2 K:=by
 unfold indep at hi
 simp only [Bool.and_eq_true] at hi
 obtain ⟨⟨⟨⟨⟨hq1,hd1⟩,hd2⟩,hg1⟩,hg2⟩,hrw⟩:=hi
 split at hrw
 ·rename_i R1 W1 R2 W2 hr1 hr2
  simp only [Bool.and_eq_true] at hrw
  obtain ⟨⟨Kd,Ke⟩,Pl⟩:=hrw
  rw [yw] at hd1 hd2 hg1 hg2 Kd Ke Pl
  have MF:∀k,o2.dst=some k->o1.dst≠some k:=fun k hk hk'=>hd1 k (fR hk') (by simp [fR hk])
  simp only [w_] at hv ⊢
  have sa:s_ ops o1 st fun s w1=>s_ ops o2 s fun s' w2=>jM P T m1 h1 o1 V (fun s'' dJ=>jM P T m2 h2 o2 dJ K s'' w2) s' w1:=by
   refine ky (fun s w1 hb=>?_) hv
   cases w1 with
   | true=>
    obtain ⟨p,q,hO⟩:=kQ hq1 hr1 hb
    obtain ⟨p2,w2,hG⟩:=ee hO.next
    refine hG.again s _ (fun t ht=>?_) ?_
    ·show s.aq t=(ov p q s).aq t
     simp [ov,hO.pd t (fun h=>hd1 t h (by simp [ht]))]
    ·refine hO.again _ V _ (View.Le.refl V) (fun t ht=>?_) (fun _ _=>rfl) ?_
     ·show (ov p2 gM s).aq t=s.aq t
      simp [ov,hG.pd t (fun h=>hg2 t h ht)]
     ·rw [wI (q2:=gM) _ (fun _=>.inr rfl)]
      ·exact hG.next
      ·intro t
       by_cases ht:t∈cR ops o2
       ·exact .inl (hO.pd t (fun h=>hd1 t h (by simp [ht])))
       ·exact .inr (hG.pd t ht)
   | false=>
    simp only [jM] at hb
    obtain ⟨p2,w2,hG⟩:=ee hb
    have hp:∀k,o1.dst=some k->p2 k=none:=fun k hk=>hG.pd k (fun h=>hd1 k (fR hk) (by simp [h]))
    refine hG.again s _ (fun t ht=>?_) ?_
    ·rw [dG]
     simp [ov,cM (d:=o1.dst) (x:=gQ) (t:=t) (fun h=>hd1 t (fR h) (by simp [ht]))]
    ·show jM P T m2 h2 o2 V K ((ov p2 gM s).put o1.dst gQ) w2
     rw [iA hp]
     exact hG.next
  have sb:=AR sa
  have sc:s_ ops o2 st fun s w2=>s_ ops o1 s fun s' w1=>jM P T m2 h2 o2 V (fun s'' dJ=>jM P T m1 h1 o1 dJ K s'' w1) s' w2:=by
   refine ky (fun s w2 hb=>ky (fun s' w1 hb=>?_) hb) sb
   cases w1 with
   | true=>
    obtain ⟨p,q,hO⟩:=kQ hq1 hr1 hb
    cases w2 with
    | true=>
     refine nK hm hr2 (fun t ht=>hO.pd t (fun h=>hd1 t h (by rcases ht with ht|ht<;>simp [ht]))) (fun s hs=>hO.qd s (fun h=>Kd s h hs)) (fun s hs=>hO.qd s (fun h=>Pl s h hs)) (fun s2 V2 hG=>?_) hO.next
     obtain ⟨g1,g2,g3,g4⟩:=hG
     exact hO.again s2 V2 K g1 (fun t ht=>g2 t (fun h=>hd2 t h (by simp [ht]))) (fun s hs=>g3 s (fun h=>Ke s h hs)) g4
    | false=>
     refine hO.again _ V K (View.Le.refl V) (fun t ht=>?_) (fun s _=>by cases o2.dst<;>rfl) ?_
     ·rw [dG]
      simp [ov,cM (d:=o2.dst) (x:=gQ) (t:=t) (fun h=>hd2 t (fR h) (by simp [ht]))]
     ·have:=hO.next
      simp only [jM] at this
      rw [iA (fun k hk=>hO.pd k (fun h=>hd1 k h (by simp [fR hk])))] at this
      exact this
   | false=>
    cases w2 with
    | true=>
     simp only [jM] at hb ⊢
     rw [dG] at hb
     refine nK hm hr2 (fun t ht=>cM (fun e=>hd1 t (fR e) (by rcases ht with ht|ht<;>simp [ht]))) (fun s hs=>rfl) (fun s hs=>rfl) (fun s2 V2 hG=>?_) hb
     have:=hG.2.2.2
     rw [←dG] at this
     exact this
    | false=>
     simp only [jM] at hb ⊢
     rw [put_comm MF]
     exact hb
  refine ky (fun s w2 hb=>?_) sc
  cases w2 with
  | true=>
   simp only [jM] at hb ⊢
   obtain ⟨p,w1,hG⟩:=ee hb
   refine nK hm hr2 (fun t ht=>hG.pd t (fun h=>?_)) (fun _ _=>rfl) (fun _ _=>rfl) (fun s2 V2 QQ=>?_) hG.next
   ·rcases ht with ht|ht
    ·exact hg1 t h ht
    ·exact hd2 t ht (by simp [h])
   ·obtain ⟨g1,g2,g3,g4⟩:=QQ
    exact hG.again s2 _ (fun t ht=>g2 t (fun h=>hd2 t h (by simp [ht]))) g4
  | false=>
   simp only [jM] at hb ⊢
   obtain ⟨p,w1,hG⟩:=ee hb
   refine hG.again _ _ (fun t ht=>?_) ?_
   ·rw [dG]
    simp [ov,cM (d:=o2.dst) (x:=gQ) (t:=t) (fun h=>hd2 t (fR h) (by simp [ht]))]
   ·have:=hG.next
    rw [iA (fun k hk=>hG.pd k (fun h=>hd2 k (fR hk) (by simp [h])))] at this
    exact this
 ·cases hrw
end Go.bo
