import Derived.Test.YtdfckdifmjeieaaGreatDoorC3
set_option linter.all false
open Go.IntKind (i64 u64 u32)
namespace Go.Eng
section
variable{P:Program}{T:eA}{n:Nat}{V0:Ó}{bU:Nl}{β0:Nat->Nat}{st:St}{β:Nat->Nat}{a:Act}{w:World}{V:Ó}
def Oo {t:TypeId}{name:String}{f:FuncId}(h:On P t name=some f)(k:Nat)(v:um)(w:World):(Go.method (k+1) t v name).run P w=.ok (f,v) w:=by unfold On at h;split at h;{rename_i i d b c;split at h;{rename_i m hm;split at h;{rename_i j l e g;cases h;have a:m.path=#[]:=by{apply ŀ;exact e};simp only [Go.method,typeInfo,Sem.run_bind,run_program,Result.andThen_ok,b,hm,Sem.run_pure,a,follow,g,receiverAt,aj c,Place.get]};cases h};cases h};cases h
def zC (hT:eA.ok P T)(F:ß n V0 bU β0 st β a w V){m:CM}{o:Oper}{K:St->un->Prop}{next:Act->World->Prop}{Q:Exit->Act->World->Prop}(N:∀d,o.dst=some d->d<n)(E:d_ P T m o st V K)(O:∀M β' Z w' V',ß n V0 bU β0 M β' Z w' V'->K M V'->next Z w'):o.wp P a w next Q:=by unfold d_ at E;split at E;{rename_i x args y e;split at E;{rename_i xs g;have ⟨q,z⟩:=iM F _ _ g;split at E;{rename_i f r h;have ⟨i,j⟩:=uW (Q:=Q) F N E O;have k:args.map a.eval=(xs.map (SV.den β)).toArray:=by{apply ŀ;rw [Qf1];exact q};have l:aJ β (xs++Ci r)=(xs.map (SV.den β)).toArray++(r.map λs=>Value.pointer (some ⟨β s,0,none⟩)).toArray:=by{unfold aJ Ci;grind [SV.den,C.den]};have b:(execOp a.eval o).run P w=.ok (.enter f (aJ β (xs++Ci r))) w:=by{rw [l];simp only [execOp,e,resolve,F.eval h,SV.den,C.den,Deferred.ofValue,pure_bind,invoke,k,Array.empty_append];exact i.run _};unfold Oper.wp;rw [b];exact j};{rename_i f p h;have ⟨i,j⟩:=uW (Q:=Q) F N E O;have k:args.map a.eval=(xs.map (SV.den β)).toArray:=by{apply ŀ;rw [Qf1];exact q};have u:(p.map C.v).map (C.den β)=p:=by{rw [Wq2];exact List.map_id _};have l:aJ β (.agg (p.map .v)::xs)=#[.agg p.toArray]++(xs.map (SV.den β)).toArray:=by{unfold aJ;rw [Ĺ,SV.den,u];simp};have b:(execOp a.eval o).run P w=.ok (.enter f (aJ β (.agg (p.map .v)::xs))) w:=by{rw [l];simp only [execOp,e,resolve,F.eval h,SV.den,C.den,Deferred.ofValue,pure_bind,invoke,k,Array.append_empty];exact i.run _};unfold Oper.wp;rw [b];exact j};exact E.elim};exact E.elim};{rename_i recv name args y e;split at E;{rename_i xs g;have ⟨q,z⟩:=iM F _ _ g;split at E;{rename_i t v h;split at E;{rename_i f A;have ⟨i,j⟩:=uW (Q:=Q) F N E O;have k:args.map a.eval=(xs.map (SV.den β)).toArray:=by{apply ŀ;rw [Qf1];exact q};have l:aJ β (.c (.w v)::xs)=#[v]++(xs.map (SV.den β)).toArray:=by{unfold aJ;grind [SV.den,C.den]};have b:(execOp a.eval o).run P w=.ok (.enter f (aJ β (.c (.w v)::xs))) w:=by{rw [l];have u:(#[Value.iface t v]++(xs.map (SV.den β)).toArray).extract 1 (#[Value.iface t v]++(xs.map (SV.den β)).toArray).size=(xs.map (SV.den β)).toArray:=χ;have B:(#[Value.iface t v]++(xs.map (SV.den β)).toArray)[0]?=some (Value.iface t v):=ψ;simp only [execOp,e,resolve,F.eval h,SV.den,C.den,pure_bind,invoke,k,B,u,callMethod,Sem.run_bind,run_program,Result.andThen_ok,Made.depth];rw [Oo A];exact i.run _};unfold Oper.wp;rw [b];exact j};exact E.elim};exact E.elim};exact E.elim};grind [LM]
theorem lJ (hT:eA.ok P T)(z:ß n V0 bU β0 st β a w V){m:CM}{h:ý}{o:Oper}{K:St->un->Prop}{next:Act->World->Prop}{Q:Exit->Act->World->Prop}(E:∀d,o.dst=some d->d<n)(u:dU P T m h o st V K)(F:∀y β' M w' V',ß n V0 bU β0 y β' M w' V'->K y V'->next M w'):o.wp P a w next Q:=by unfold dU at u;split at u;{exact zC hT z E u F};split at u;{split at u;{exact zC hT z E u F};exact u.elim};exact u.elim
def ß.refine (u:ß n V0 bU β0 st β a w V){g:Nat}{x y:SV}(F:st.aF g=some x)(he:x.den β=y.den β)(E:y.ids=[]):ß n V0 bU β0 (st.put (some g) y) β a w V:=by refine ⟨u.defers,u.size,?_,?_,u.EJ,u.boxes,u.inj,u.tK,u.Ar,u.ext,u.own,u.pf,u.nt,u.small⟩;{grind [eV,u.aF]};intro t z b;rw [eV] at b;split at b;{simp only [ā] at b;rw [<-b,E];exact λs c=>(nomatch c)};exact u.EK t z b
def PD {ops:Array Oper}{tmps:Array um}{j g:Nat}(u:(ops[j]?).bind (·.dst)=some g):yielded ops tmps j=match tmps.getD g undef with|.bool b=>some b|_=>none:=by unfold yielded;rw [u];simp only [Option.bind_some];by_cases h:g<tmps.size;{have a:=getElem?_pos tmps g h;have c:tmps.getD g undef=tmps[g]:=by{simp [h]};grind};simp [h,undef]
def Lu (hT:eA.ok P T)(z:ß n V0 bU β0 st β a w V){m:CM}{h:ý}{ops:Array Oper}{o:Oper}{K:St->un->Prop}{next:Act->World->Prop}{Q:Exit->Act->World->Prop}(E:∀d,o.dst=some d->d<n)(y:xJ P T m h ops o st V K)(F:∀M β' N w' V',ß n V0 bU β0 M β' N w' V'->K M V'->next N w'):if Region.wanted o (yielded ops a.tmps) then o.wp P a w next Q else next (a.put o.dst undef) w:=by unfold xJ at y;split at y;{grind [Region.wanted,lJ]};rename_i j b t;split at y;{exact y.elim};rename_i g l;have u:=PD (tmps:=a.tmps) l;have f:∀c:ut,a.tmps.getD g undef=.bool c->(Region.wanted o (yielded ops a.tmps)=true↔c=b):=by{grind [Region.wanted]};have skip:∀{iO:St},ß n V0 bU β0 iO β a w V->K (iO.put o.dst mz) V->next (a.put o.dst undef) w:=by{intro iO p q;exact F _ _ _ _ _ (p.LG E rfl (cB rfl)) q};split at y;{rename_i k;have i:=z.aF g _ k;split at y;{rw [Ä ((f true i).2 rfl)];exact lJ hT z E y F};rw [Ã (λh=>by have:=(f true i).1 h;cases this)];exact skip z y};{rename_i k;have i:=z.aF g _ k;split at y;{rw [Ã (λh=>by have:=(f false i).1 h;cases this)];exact skip z y};rw [Ä ((f false i).2 rfl)];exact lJ hT z E y F};{rename_i c k;have i:=z.aF g _ k;have r:c=true->ß n V0 bU β0 (st.put (some g) (.c .tt)) β a w V:=λe=>z.refine k (by rw [e];rfl) rfl;have s:c=false->ß n V0 bU β0 (st.put (some g) (.c .ff)) β a w V:=λe=>z.refine k (by rw [e];rfl) rfl;split at y;{(cases c with|true=>{rw [Ä ((f true i).2 rfl)];exact lJ hT (r rfl) E (y.1 rfl) F}|false=>{rw [Ã (λh=>by have:=(f false i).1 h;cases this)];exact skip (s rfl) (y.2 rfl)})};(cases c with|true=>{rw [Ã (λh=>by have:=(f true i).1 h;cases this)];exact skip (r rfl) (y.1 rfl)}|false=>{rw [Ä ((f false i).2 rfl)];exact lJ hT (s rfl) E (y.2 rfl) F})};{rename_i xs k;have i:=z.aF g _ k;grind [Region.wanted,SV.den]};exact y.elim
def Hg (hT:eA.ok P T){m:Nat->CM}{hint:Nat->ý}{ops:Array Oper}(F:∀(i:Nat)(o:Oper),ops[i]?=some o->∀d,o.dst=some d->d<n){Q:Exit->Act->World->Prop}{K:St->un->Prop}(M:∀u β' z w' V',ß n V0 bU β0 u β' z w' V'->K u V'->Q .normal z w'):∀(l:zA Nat)(st:St)(β:Nat->Nat)(a:Act)(w:World)(V:un),ß n V0 bU β0 st β a w V->W9 P T m hint ops l st V K->wpOps P ops Q l a w
 | [],st,β,a,w,V,E,y=>M _ _ _ _ _ E y
 | i::r,st,β,a,w,V,E,y=>by
  simp only [W9] at y;simp only [wpOps];split at y
  ·rename_i o N;rw [N];dsimp only;have:=Lu (Q:=Q) (next:=wpOps P ops Q r) hT E (F i o N) y (λu β' z w' V' b c=>Hg hT F M r u β' z w' V' b c);grind
  ·exact y.elim
end
section
def ov (p:Nat->Option SV)(q:Nat->Option aZ)(st:St):St:=
 ⟨λt=>match p t with|some x=>some x|none=>st.aF t,λt=>match q t with|some x=>some x|none=>st.boxes t⟩
theorem iC {a b:Nat}(h:a≠b):Nat.beq a b=false:=by cases u:Nat.beq a b;{rfl};exact Å (beq_eq.1 u) h
section
variable{p:Nat->Option SV}{q:Nat->Option aZ}{st:St}
theorem me {d:Option Nat}{x:SV}(h:∀k,d=some k->p k=none):(ov p q st).put d x=ov p q (st.put d x):=by (cases d with|none=>rfl|some d=>{have a:=h d rfl;simp only [ov,St.put];grind [iC]})
theorem p_ {s:Nat}{b:aZ}(h:q s=none):(ov p q st).box s b=ov p q (st.box s b):=by simp only [ov,St.box];grind [iC]
theorem cN {s:Nat}(h:q s=none):(ov p q st).boxes s=st.boxes s:=by simp [ov,h]
def Zg {x:Operand}(h:∀t,x=.tmp t->p t=none):(ov p q st).bQ x=st.bQ x:=by (cases x with|tmp t=>simp [St.bQ,ov,h t rfl]|_=>rfl)
def one {α:Type}(d:Option Nat)(x:α):Nat->Option α:=λt=>match d with|some k=>cond (Nat.beq t k) (some x) none|none=>none
theorem fy {α:Type}{d:Option Nat}{x:α}{t:Nat}(h:d≠some t):one d x t=none:=by cases d<;>grind [one,iC]
theorem gT (d:Option Nat)(x:SV):st.put d x=ov (one d x) (λ_=>none) st:=by (cases d with|none=>rfl|some d=>grind [ov,St.put,one])
theorem T2 (s:Nat)(b:aZ):st.box s b=ov (λ_=>none) (one (some s) b) st:=by grind [ov,St.box,one]
def Gm (s:Nat)(b:aZ)(d:Option Nat)(x:SV):(st.box s b).put d x=ov (one d x) (one (some s) b) st:=by rw [gT,T2];rfl
end
def fZ {ρ ρ':Operand->Option SV}:∀l:zA Operand,(∀x∈l,ρ x=ρ' x)->cR ρ l=cR ρ' l
 | [],_=>rfl
 | o::r,h=>by simp only [cR];rw [h o ψ,fZ r λx u=>h x (by simp [u])]
def nK {ρ ρ':Operand->Option SV}:∀l:zA (Nat×Operand),(∀x∈l.map (·.2),ρ x=ρ' x)->ö ρ l=ö ρ' l
 | [],_=>rfl
 | (i,o)::r,h=>by simp only [ö];rw [h o ψ,nK r λx u=>h x (by simp only [Ĺ,ç];exact .inr u)]
theorem OB {ρ ρ':Operand->Option SV}:∀l:Option Operand,(∀x,l=some x->ρ x=ρ' x)->IW ρ l=IW ρ' l
 | none,_=>rfl
 | some o,h=>by simp only [IW];rw [h o rfl]
def rR {T:eA}{ρ ρ':Operand->Option SV}{bx:Nat->Option aZ}{op:Op}(h:∀x∈op.operands.toList,ρ x=ρ' x):aW T ρ bx op=aW T ρ' bx op:=by (cases op with|move x=>{simp only [aW];rw [h x (by simp [Op.operands])]}|assign x=>{simp only [aW];rw [h x (by simp [Op.operands])]}|pick c a b=>{simp only [aW];rw [h c (by simp [Op.operands]),h a (by simp [Op.operands]),h b (by simp [Op.operands])]}|box t x=>{simp only [aW];rw [h x (by simp [Op.operands])]}|build t u=>{simp only [aW];rw [nK _ λx g=>h x (by simpa [Op.operands] using g)]}|buildSlice t n u=>{simp only [aW];rw [nK _ λx g=>h x (by simpa [Op.operands] using g)]}|load t a=>{simp only [aW];rw [h a (by simp [Op.operands])]}|store t a x=>{simp only [aW];rw [h a (by simp [Op.operands]),h x (by simp [Op.operands])]}|nilCheck x=>{simp only [aW];rw [h x (by simp [Op.operands])]}|binOp o z x y E=>{simp only [aW];rw [h x (by simp [Op.operands]),h y (by simp [Op.operands])]}|unOp o z x=>{cases o<;>simp only [aW]<;>rw [h x (by simp [Op.operands])]}|convert s d x=>{simp only [aW];rw [h x (by simp [Op.operands])]}|makeFunc fn first caps=>{(cases fn with|func f=>{have k:cR ρ caps.toList=cR ρ' caps.toList:=fZ _ λx g=>h x (by simp [Op.operands];exact .inr (by simpa using g));have l:∀x∈first.toList,ρ x=ρ' x:=λx g=>h x (by simp [Op.operands];exact .inl (by simpa using g));simp only [aW,k];(split<;>try rfl);rename_i x g;rw [l x (by rw [g];simp)]}|_=>rfl)}|makeSlice t a b=>{simp only [aW];rw [h a (by simp [Op.operands]),h b (by simp [Op.operands])]}|slice t x lo hi mx=>{simp only [aW];grind [Op.operands,OB]}|fieldAddr t x f=>{simp only [aW];rw [h x (by simp [Op.operands])]}|field t x f=>{simp only [aW];rw [h x (by simp [Op.operands])]}|indexAddr t x i=>{simp only [aW];rw [h x (by simp [Op.operands]),h i (by simp [Op.operands])]}|extract x j=>{simp only [aW];rw [h x (by simp [Op.operands])]}|index t x i=>{simp only [aW];rw [h x (by simp [Op.operands]),h i (by simp [Op.operands])]}|makeInterface t x=>{simp only [aW];rw [h x (by simp [Op.operands])]}|call c=>{obtain ⟨m,args,p⟩:=c;(cases m with|builtin b=>{have e:cR ρ args.toList=cR ρ' args.toList:=fZ _ λx g=>h x (by simpa [Op.operands,Call.operands] using g);cases b<;>simp only [aW]<;>rw [e]}|_=>rfl)}|_=>rfl)
def Wk {T:eA}{LF RF:zA Nat}{ρ:Operand->Option SV}{bx bx':Nat->Option aZ}{op:Op}(h:bM LF RF op=.pure\/bM LF RF op=.alloc):aW T ρ bx op=aW T ρ bx' op:=by (cases op with|load t a=>{rcases h with h|h<;>cases h}|store t a x=>{rcases h with h|h<;>cases h}|unOp o u x=>{cases o<;>rfl}|makeFunc fn first caps=>{cases fn<;>rfl}|call c=>{obtain ⟨d,args,e⟩:=c;(cases d with|builtin b=>{(cases b<;>first|rfl|(rcases h with h|h<;>cases h))}|_=>rfl)}|_=>rfl)
theorem Wm {bx bx':Nat->Option aZ}{i:TI}{x:SV}(h:∀s∈x.ids,bx' s=bx s):mh bx i x=mh bx' i x:=by unfold mh;grind [SV.ids,C.ids]
def S4 {bx bx':Nat->Option aZ}{i:TI}{x y:SV}(h:∀s∈x.ids,bx' s=bx s):jA bx i x y=jA bx' i x y:=by unfold jA;grind [SV.ids,C.ids]
def OO {bx:Nat->Option aZ}{i:TI}{x y:SV}{sc:zA Prop}{s:Nat}{b:aZ}(h:jA bx i x y=.Ax sc s b):s∈x.ids:=by unfold jA at h;grind [SV.ids,C.ids]
def QI {V:un}{p:Addr}:∀(cs:zA C) (i:Nat) {k:Prop},V.Zs p i cs k↔V.Zs p i cs True/\k
 | [],_,k=>by simp [Ó.Zs]
 | c::r,i,k=>by
  simp only [Ó.Zs];rw [QI r (i+1),and_assoc]
def Wp {V V':un}(h:V.Le V'){p:Addr}:∀(cs:zA C) (i:Nat) {k:Prop},V.Zs p i cs k->V'.Zs p i cs k
 | [],_,_,u=>u
 | c::r,i,_,u=>⟨h.at u.1,Wp h r (i+1) u.2⟩
def wZ {V:un}{p:OA}{x:SV}{k:Prop}:V.Zr p x k↔V.Zr p x True/\k:=by (cases x with|agg cs=>{simp only [Ó.Zr];constructor;{rintro ⟨a,c,b⟩;rw [QI] at b;exact ⟨⟨a,c,b.1⟩,b.2⟩};grind}|_=>grind [Ó.Zr])
def rdV_le {V V':un}(h:V.Le V'){p:OA}{x:SV}{k:Prop}(u:V.Zr p x k):V'.Zr p x k:=by (cases x with|c c=>{obtain ⟨⟨a,b,d⟩,e⟩:=u;exact ⟨⟨a,b,h.at d⟩,e⟩}|agg cs=>{obtain ⟨a,b,d⟩:=u;exact ⟨a,b,Wp h _ _ d⟩}|xU xs=>exact u)
def EH.split:∀(s:EH) {F:C->Prop},s.ex F->∃x,F x/\∀G:C->Prop,G x->s.ex G
 | .int _,_,⟨_,h⟩=>⟨_,h,λ_ g=>⟨_,g⟩⟩
 | .bool,_,⟨_,h⟩=>⟨_,h,λ_ g=>⟨_,g⟩⟩
 | .slice,_,⟨_,_,_,h⟩=>⟨_,h,λ_ g=>⟨_,_,_,g⟩⟩
 | .ptr,_,⟨_,h⟩=>⟨_,h,λ_ g=>⟨_,g⟩⟩
 | .str,_,⟨_,h⟩=>⟨_,h,λ_ g=>⟨_,g⟩⟩
 | .any,_,⟨_,h⟩=>⟨_,h,λ_ g=>⟨_,g⟩⟩
def th:∀(l:zA EH) {F:zA C->Prop},exL l F->∃x,F x/\∀G:zA C->Prop,G x->exL l G
 | [],_,h=>⟨_,h,λ_ g=>g⟩
 | s::r,_,h=>by
  have ⟨c,u,y⟩:=EH.split s h;have ⟨cs,a,b⟩:=th r u;exact ⟨c::cs,a,λG g=>y _ (b _ g)⟩
def BH.split:∀(s:BH) {F:SV->Prop},s.ex F->∃x,F x/\∀G:SV->Prop,G x->s.ex G
 | .one s,_,h=>by have ⟨c,u,y⟩:=EH.split s h;exact ⟨.c c,u,λG g=>y _ g⟩
 | .agg l,_,h=>by have ⟨c,u,y⟩:=th l h;exact ⟨.agg c,u,λG g=>y _ g⟩
def yC:∀(l:zA BH) {F:zA (ut×zA C)->Prop},exT l F->∃x,F x/\∀G:zA (ut×zA C)->Prop,G x->exT l G
 | [],_,h=>⟨_,h,λ_ g=>g⟩
 | .one s::r,_,h=>by
  have ⟨c,u,y⟩:=EH.split s h;have ⟨cs,a,b⟩:=yC r u;exact ⟨_,a,λG g=>y _ (b _ g)⟩
 | .agg l::r,_,h=>by
  have ⟨c,u,y⟩:=th l h;have ⟨cs,a,b⟩:=yC r u;exact ⟨_,a,λG g=>y _ (b _ g)⟩
def Sh.split:∀(s:Sh) {F:SV->Prop},s.ex F->∃x,F x/\∀G:SV->Prop,G x->s.ex G
 | .val s,_,h=>BH.split s h
 | .xU l,_,h=>by have ⟨x,u,y⟩:=yC l h;exact ⟨_,u,λG g=>y _ g⟩
 | .none,_,h=>⟨_,h,λ_ g=>g⟩
def Sh.s {s:Sh}{F G:SV->Prop}(h:s.ex F)(k:∀x,F x->G x):s.ex G:=by have ⟨x,a,b⟩:=s.split h;exact b G (k x a)
def DG {l m:zA Nat}:WU l m=true↔∀x∈l,x∈m:=by simp only [WU,ħ,dX]
def CY {op:Op}{x:Operand}(h:x∈op.operands.toList){t:Nat}(e:x=.tmp t):t∈kI op:=by subst e;exact List.mem_filterMap.2 ⟨_,h,rfl⟩
def tw {st iO:St}{op:Op}(h:∀t∈kI op,iO.aF t=st.aF t){x:Operand}(u:x∈op.operands.toList):iO.bQ x=st.bQ x:=by (cases x with|tmp t=>exact h t (CY u rfl)|_=>rfl)
def CX {op:Op}{x:Operand}(h:x∈nH op):x∈op.operands.toList:=by unfold nH at h;grind [Op.operands,Call.operands]
def yP {ρ:Operand->Option SV}:∀{l:zA Operand} {xs:zA SV},cR ρ l=some xs->∀x∈l,∃v,ρ x=some v/\v∈xs
 | [],_,_,_,y=>nomatch y
 | o::r,xs,h,x,y=>by
  simp only [cR] at h;split at h
  ·rename_i v l z E;cases h;rcases ç.1 y with e|y
   ·exact ⟨v,by rw [e];exact z,ψ⟩
   ·have ⟨u,hu,hm⟩:=yP E x y;grind
  ·cases h
structure Ķ (P:Program) (T:eA) (m:CM) (h:ý) (o:Oper) (st:St) (V:Ó) (R W:List Nat) (K:St->Ó->Prop) (p:Nat->Option SV) (q:Nat->Option aZ):Prop where
 pd:∀t,t∉fS o->p t=none
 qd:∀s,s∉W->q s=none
 next:K (ov p q st) V
 again:∀(iO:St)(V2:Ó)(K2:St->Ó->Prop),V.Le V2->(∀t∈kI o.op,iO.aF t=st.aF t)->(∀s∈R,iO.boxes s=st.boxes s)->K2 (ov p q iO) V2->dU P T m h o iO V2 K2
variable{P:Program}{T:eA}{LF RF:List Nat}{m:CM}
def Il {o:Oper}{t:Nat}(h:t∉fS o):o.dst≠some t:=by intro e;apply h;simp [fS,e]
def ZU {o:Oper}{st:St}{V:un}{K:St->un->Prop}{R W:zA Nat}{F:Q}(hnew:∀sc b x,F=.new sc b x->fS o=W/\fS o=R)(hupd:∀sc s b,F=.Ax sc s b->s∈W)(happ:eN F≠6)(E:Ay F o.dst st V K):∃p q,(∀t,t∉fS o->p t=none)/\(∀s,s∉W->q s=none)/\K (ov p q st) V/\∀(iO:St)(V2:un)(K2:St->un->Prop),V.Le V2->(∀s∈R,iO.boxes s=st.boxes s)->K2 (ov p q iO) V2->Ay F o.dst iO V2 K2:=by (cases F with|fail=>exact E.elim|ret sc x=>{obtain ⟨h,k⟩:=(fK sc _).1 E;refine ⟨one o.dst x,λ_=>none,λt l=>fy (Il l),λ_ _=>rfl,by rw [<-gT];exact k,?_⟩;intro iO V2 K2 _ _ m;exact (fK sc _).2 ⟨h,by rw [gT];exact m⟩}|new sc b x=>{have ⟨r,u⟩:=hnew _ _ _ rfl;simp only [Ay] at E ⊢;(cases M:o.dst with|none=>{rw [M] at E;exact E.elim}|some d=>{have n:fS o=[d]:=by{simp [fS,M]};rw [M] at E;dsimp only at E ⊢;split at E;{rename_i v;obtain ⟨h,k⟩:=(fK sc _).1 E;refine ⟨one (some d) (x d),one (some d) b,λt l=>fy (by intro e;apply l;rw [n];simpa using e.symm),λs w=>fy (by intro e;apply w;rw [<-r,n];simpa using e.symm),by rw [<-Gm];exact k,?_⟩;intro iO V2 K2 _ y m;rw [y d (by rw [<-u,n];simp),v];exact (fK sc _).2 ⟨h,by rw [Gm];exact m⟩};exact E.elim})}|Ax sc s b=>{simp only [Ay] at E ⊢;(cases M:o.dst with|some d=>{rw [M] at E;exact E.elim}|none=>grind [fK,fy,T2])}|rd a sh=>{have ⟨x,h,k⟩:=sh.split E;have ⟨z,A⟩:=wZ.1 h;refine ⟨one o.dst x,λ_=>none,λt l=>fy (Il l),λ_ _=>rfl,by rw [<-gT];exact A,?_⟩;intro iO V2 K2 hle _ m;exact k _ (wZ.2 ⟨rdV_le hle z,by rw [gT];exact m⟩)}|uz vs of size sh=>{have ⟨x,h,k⟩:=sh.split E;refine ⟨one o.dst x,λ_=>none,λt l=>fy (Il l),λ_ _=>rfl,by rw [<-gT];exact h.2,?_⟩;intro iO V2 K2 hle _ m;exact k _ ⟨h.1,by rw [gT];exact m⟩}|app a b c d e f g i j=>exact Å rfl happ|yL a b c d e f g i=>exact Å rfl happ)
def Dm {o:Oper}(h:rS (bM LF RF o.op)=true)(st:St)(V:un)(K:St->un->Prop):d_ P T m o st V K=Ay (aW T st.bQ st.boxes o.op) o.dst st V K:=by unfold d_;split;{rename_i f args b a;rw [a] at h;exfalso;(cases f with|func f=>{simp only [bM] at h;split at h;{split at h<;>cases h};split at h;{cases h};split at h<;>cases h}|_=>{cases h})};{rename_i recv name args b a;rw [a] at h;cases h};rfl
def vD {ρ:Operand->Option SV}{bx:Nat->Option aZ}{op:Op}:eN (aW T ρ bx op)=2->bM LF RF op=.alloc:=by
 have u:∀{q:Q} {X:Prop},eN q<=1->eN q=2->X:=by intro q X h y;omega
 unfold aW;split
 case h_8=>
  split
  ·intro h;rcases HC (bx:=bx) with y|y|y|y<;>(rw [y] at h;cases h)
  ·exact u (ä _)
 case h_9=>
  split
  ·intro h;rcases DS (bx:=bx) with y|y<;>(rw [y] at h;cases h)
  ·exact u (ä _)
 case h_11=>
  split
  ·split;{split;{exact u xB};exact u (ä _)};exact u xB
  ·exact u (ä _)
 case h_17=>exact λ_=>rfl
 case h_18=>
  split
  ·split;{split;{exact u DR};exact u (ä _)};exact u (ä _)
  ·exact u (ä _)
 case h_21=>
  split
  ·exact u sC
  ·exact u (ä _)
 case h_23 c=>
  split
  ·intro h;exfalso;split at h<;>(try split at h)<;>(try split at h)<;>(try split at h)<;>first|(rcases su (bx:=bx) with y|y<;>(rw [y] at h;cases h))|cases h
  ·split;{intro h;rcases DQ (T:=T) (bx:=bx) with y|y<;>(rw [y] at h;cases h)};exact u (ä _)
  ·split;{split;{exact u xC};exact u (ä _)};exact u (ä _)
  ·exact u (ä _)
 all_goals
  first
  | exact λ_=>rfl
  | exact u (ä _)
  | ((repeat' split)<;>first|exact u (ä _)|exact u (Ù _)|exact u uB|(unfold Dk;(repeat' split)<;>first|exact u (ä _)|exact u (Ù _)))
def G7 {st iO:St}{op:Op}(h:∀t∈kI op,iO.aF t=st.aF t):cR iO.bQ (nH op)=cR st.bQ (nH op):=
 fZ _ λ_ a=>tw h (CX a)
def tB {h:ý}{o:Oper}{st:St}{V:un}{K:St->un->Prop}{R W:zA Nat}(hq:rS (bM LF RF o.op)=true)(hrw:xo (bM LF RF o.op) h (fS o)=some (R,W))(hv:dU P T m h o st V K):∃p q,Ķ P T m h o st V R W K p q:=by
 have core:(∀iO:St,(∀t∈kI o.op,iO.aF t=st.aF t)->(∀s∈R,iO.boxes s=st.boxes s)->aW T iO.bQ iO.boxes o.op=aW T st.bQ st.boxes o.op) ->
   (∀B b x,aW T st.bQ st.boxes o.op=.new B b x->fS o=W/\fS o=R)->(∀B s b,aW T st.bQ st.boxes o.op=.Ax B s b->s∈W) ->
   (∀(iO:St)(V2:un)(C:St->un->Prop),(∀t∈kI o.op,iO.aF t=st.aF t)->d_ P T m o iO V2 C->dU P T m h o iO V2 C) ->
   d_ P T m o st V K->∃p q,Ķ P T m h o st V R W K p q:=by
  intro he O hu A hv;rw [Dm hq] at hv
  obtain ⟨p,q,Q,S,U,X⟩:=ZU (R:=R) (W:=W) O hu (λk=>by
   obtain ⟨Y,d,D⟩:=(iN (T:=T) (ρ:=st.bQ) (bx:=st.boxes) (op:=o.op)).2.2 k;rw [d] at hq;obtain ⟨E,args,I⟩:=Y;dsimp only at D;subst D;cases hq) hv
  refine ⟨p,q,Q,S,U,λiO V2 C hle F G Z=>?_⟩;refine A iO V2 C F ?_;rw [Dm hq,he iO F G];exact X iO V2 C hle G Z
 have J:bM LF RF o.op=.pure\/bM LF RF o.op=.alloc->h=.free->(bM LF RF o.op=.alloc->R=fS o/\W=fS o)->∃p q,Ķ P T m h o st V R W K p q:=by intro g hf hd;subst hf;refine core (λiO r _=>?_) (λB b x k=>?_) (λB s b k=>?_) (λ_ _ _ _ A=>A) hv;{rw [Wk (bx':=st.boxes) g];exact rR λx H=>tw r H};{have:=hd (vD (by rw [k];rfl));exact ⟨this.2.symm,this.1.symm⟩};rcases (iN (T:=T) (ρ:=st.bQ) (bx:=st.boxes) (op:=o.op)).1 (by rw [k];rfl) with ⟨t,y,x,d⟩|⟨⟨E,args,I⟩,d,D⟩;{rw [d] at g;rcases g with g|g<;>cases g};dsimp only at D;subst D;rw [d] at g;rcases g with g|g<;>cases g
 generalize g:bM LF RF o.op=c at hrw hq J
 cases c with
 | pure=>
  cases h with
  | free=>exact J (.inl rfl) rfl Ŭ
  | own l=>cases hrw
 | alloc=>
  cases h with
  | free=>
   simp only [xo,ā,Ŗ] at hrw;exact J (.inr rfl) rfl (λ_=>⟨hrw.1.symm,hrw.2.symm⟩)
  | own l=>cases hrw
 | load=>
  cases h with
  | free=>cases hrw
  | own l=>
   simp only [xo,ā,Ŗ] at hrw;obtain ⟨rfl,rfl⟩:=hrw
   have d:∃t a,o.op=.load t a:=by
    generalize o.op=op at g
    cases op with
    | load t a=>exact ⟨t,a,rfl⟩
    | call c=>obtain ⟨E,args,I⟩:=c;cases E with
     | builtin b=>cases b<;>cases g
     | value f=>cases f with
      | func f=>simp only [bM] at g;split at g<;>(try split at g)<;>(try split at g)<;>(try split at g)<;>cases g
      | _=>cases g
     | _=>cases g
    | _=>cases g
   obtain ⟨t,a,d⟩:=d;unfold dU at hv;dsimp only at hv;split at hv
   ·rename_i xs n;split at hv;{rename_i j;have L:∀v,st.bQ a=some v->∀s∈v.ids,s∈l:=by{intro v CF s r;rw [DG] at j;apply j;rw [d] at n;have ⟨u,hu,hm⟩:=yP n a (by simp [nH]);rw [d];simp only [iq];grind};refine core (λiO r A=>?_) (λB b x k=>?_) (λB s b k=>?_) (λiO V2 C r A=>?_) hv;{rw [d] at r ⊢;rw [rR (ρ':=st.bQ) λx H=>tw r H];simp only [aW];grind [Wm]};{have:=vD (LF:=LF) (RF:=RF) (op:=o.op) (T:=T) (ρ:=st.bQ) (bx:=st.boxes) (by rw [k];rfl);rw [d] at this;cases this};{rcases (iN (T:=T) (ρ:=st.bQ) (bx:=st.boxes) (op:=o.op)).1 (by rw [k];rfl) with ⟨t,y,x,z⟩|⟨c,z,-⟩<;>(rw [d] at z;cases z)};unfold dU;dsimp only;rw [G7 r,n];dsimp only;have:iq iO.boxes o.op (xs.flatMap SV.ids)=iq st.boxes o.op (xs.flatMap SV.ids):=by{rw [d];rfl};rw [this,j];exact A};exact hv.elim
   ·exact hv.elim
 | store=>
  cases h with
  | free=>cases hrw
  | own l=>
   simp only [xo,ā,Ŗ] at hrw;obtain ⟨rfl,rfl⟩:=hrw
   have d:∃t a x,o.op=.store t a x:=by
    generalize o.op=op at g
    cases op with
    | store t a x=>exact ⟨t,a,x,rfl⟩
    | call c=>obtain ⟨E,args,I⟩:=c;cases E with
     | builtin b=>cases b<;>cases g
     | value f=>cases f with
      | func f=>simp only [bM] at g;split at g<;>(try split at g)<;>(try split at g)<;>(try split at g)<;>cases g
      | _=>cases g
     | _=>cases g
    | _=>cases g
   obtain ⟨t,a,y,d⟩:=d;unfold dU at hv;dsimp only at hv;split at hv
   ·rename_i xs n;split at hv;{rename_i j;have L:∀v,st.bQ a=some v->∀s∈v.ids,s∈l:=by{intro v CF s r;rw [DG] at j;apply j;rw [d] at n;have ⟨u,hu,hm⟩:=yP n a (by simp [nH]);rw [d];simp only [iq];grind};refine core (λiO r A=>?_) (λB b x k=>?_) (λB s b k=>?_) (λiO V2 C r A=>?_) hv;{rw [d] at r ⊢;rw [rR (ρ':=st.bQ) λx H=>tw r H];simp only [aW];split;{rename_i i v w hi M hw;exact (S4 λs N=>A s (L v M s N)).symm};rfl};{have:=vD (LF:=LF) (RF:=RF) (op:=o.op) (T:=T) (ρ:=st.bQ) (bx:=st.boxes) (by rw [k];rfl);rw [d] at this;cases this};{rw [d] at k;simp only [aW] at k;split at k;{rename_i i v w hi M hw;exact L v M s (OO k)};cases k};unfold dU;dsimp only;rw [G7 r,n];dsimp only;have:iq iO.boxes o.op (xs.flatMap SV.ids)=iq st.boxes o.op (xs.flatMap SV.ids):=by{rw [d];rfl};rw [this,j];exact A};exact hv.elim
   ·exact hv.elim
 | _=>cases hq
end
section
variable{P:Program}{T:eA}{LF RF:List Nat}{m:CM}
def Ū (p:Nat->Option SV)(q:Nat->Option aZ)(W D:List Nat)(st:St)(V:Ó)(K:St->Ó->Prop):St->Ó->Prop:=
 λiO V2=>V.Le V2/\(∀t,t∉D->iO.aF t=st.aF t)/\(∀s,s∉W->iO.boxes s=st.boxes s)/\K (ov p q iO) V2
def vT {bx bx':Nat->Option aZ}:∀{l:zA Nat},(∀s∈l,bx' s=bx s)->l.flatMap (pj bx')=l.flatMap (pj bx)
 | [],_=>rfl
 | s::r,h=>by
  simp only [Ġ];rw [vT λs u=>h s (by simp [u])];simp only [pj];rw [h s ψ]
def rT {bx bx':Nat->Option aZ}:∀(n:Nat)(l:zA Nat),(∀s∈ï bx n l,bx' s=bx s)->ï bx' n l=ï bx n l
 | 0,_,_=>rfl
 | n+1,l,h=>by
  have u:∀s∈l,bx' s=bx s:=λs a=>h s (gJ (n+1) l s a);simp only [ï] at h ⊢;rw [vT u];exact rT n _ h
def E6 {bx bx':Nat->Option aZ}{l:zA Nat}(h:∀s∈l,bx' s=bx s):jP bx' l=jP bx l:=by unfold jP;rw [ģ,ħ,ħ];constructor;{intro g s a;have:=g s a;simp only [pj] at this ⊢;rw [h s a] at this;exact this};intro g s a;have:=g s a;simp only [pj] at this ⊢;rw [h s a];exact this
def fB:∀{L:zA Nat} {β:Nat->Nat} {k k':(Nat->Nat)->Prop},(∀β,k β->k' β)->nX L β k->nX L β k'
 | [],_,_,_,h,g=>h _ g
 | _::_,_,_,_,h,g=>λb=>fB h (g b)
def C9 {bx bx':Nat->Option aZ}{b:aZ}{β:Nat->Nat}{s:Nat}:∀{r:zA Nat} {k k':Prop},(∀t∈r,bx' t=bx t)->(k->k')->neH bx b β s r k->neH bx' b β s r k'
 | [],_,_,_,h,g=>h g
 | t::r,k,k',u,h,g=>by
  have y:=λt a=>u t (ø _ a);simp only [neH] at g ⊢;rw [u t ψ]
  cases hbq:Nat.beq s t with
  | true=>rw [hbq] at g;exact C9 y h g
  | false=>
   rw [hbq] at g;simp only [cond_false] at g ⊢;split at g
   ·exact λc=>C9 y h (g c)
   ·exact g
def ma {bx bx':Nat->Option aZ}{β:Nat->Nat}{V:un}:∀{L:zA Nat} {k k':Prop},(∀s∈L,bx' s=bx s)->((∀s∈L,∃b,bx s=some b/\(b.live->V.H (β s)))->k->k')->kO bx β V L k->kO bx' β V L k'
 | [],_,_,_,h,g=>h (λs z=>Å z ψ) g
 | s::r,k,k',u,h,g=>by
  have y:=λt a=>u t (ø _ a);simp only [kO] at g ⊢;rw [u s ψ];split at g
  ·rename_i b c;refine λd e=>ma y (λi=>C9 y (λf=>h (λt a=>?_) f)) (g d e)<;>grind [kX.1]
  ·exact g
def mR {y:Option (Nat×Nat)}:∀{cs E:zA C} {K u:zA C->Prop},(∀c,K c->u c)->pR y cs E K->pR y cs E u
 | [],_,_,_,h,g=>h _ g
 | _::_,[],_,_,_,g=>g.elim
 | c::r,z::zr,K,u,h,g=>by
  simp only [pR] at g ⊢;split at g
  ·split at g
   ·split at g
    ·obtain ⟨n,c,g⟩:=g;exact ⟨n,c,mR (λcs a=>h _ a) g⟩
    ·exact g.elim
   ·exact g.elim
  ·split at g
   ·have ⟨v,b,d⟩:=EH.split _ g;rename_i e;rw [e] at *;exact d _ (mR (λcs a=>h _ a) b)
   ·exact mR (λcs a=>h _ a) g
variable{p:Nat->Option SV}{q:Nat->Option aZ}
def mS {z:Option (Nat×Nat)}{β:Nat->Nat}{V:un}{W:zA Nat}:∀{L:zA Nat} {st:St} {k k':St->Prop},(∀s∈L,q s=none/\s∈W) ->(∀y,(∀t,y.aF t=st.aF t)->(∀s,s∉W->y.boxes s=st.boxes s)->k (ov p q y)->k' y)->fV T z β V L (ov p q st) k->fV T z β V L st k'
 | [],st,k,k',_,h,g=>h st (λ_=>rfl) (λ_ _=>rfl) g
 | s::r,st,k,k',E,h,g=>by
  have ⟨hqs,hsW⟩:=E s ψ;have f:∀s∈r,q s=none/\s∈W:=λs j=>E s (by simp [j])
  have a:∀b:aZ,∀d:St->Prop,(∀y,d y=k y)->fV T z β V r ((ov p q st).box s b) d->fV T z β V r (st.box s b) k':=by
   intro b d e g;rw [p_ hqs] at g;refine mS f (λy l o c=>h y l (λu m=>?_) (by rw [<-e];exact c)) g<;>grind [aq]
  simp only [fV] at g ⊢;rw [cN hqs] at g;split at g
  ·rename_i cs ty v;split at g;{rename_i i w;exact mR (λn c=>⟨c.1,a _ _ (λ_=>rfl) c.2⟩) g};exact g
  ·grind
  ·grind
  ·exact g
def Br (V:un)(l:zA Nat):V.Le (V.au l):=λ_ _ h=>h
def Qo (V:un):V.Le V.shut:=λ_ _ h=>h
def rJ {V V' u:un}{P:Prop}{b:Nat}(h:V.Le u)(y:V.Le V')(z:P->V'.w.heap.size<=b\/V'.H b):V.Le (u.shut.aY P b):=by intro x o c;have ⟨d,f⟩:=h x o c;have ⟨g,i⟩:=y x o c;refine ⟨λa=>?_,f⟩;rcases a with a|⟨j,e,-⟩;{exact d a};grind
def VC {m:Option Nat}{d:Nat}:hZ m d=d\/hZ m d=d+200000:=by (cases m with|none=>exact .inl rfl|some m=>{simp only [hZ,uv];grind})
def pW {give:ut}{sh:Sh}{L:zA Nat}{M:Option Nat}{d:Nat}{ety:TypeId}{β:Nat->Nat}{st:St}{V V' N:un}{K K':St->un->Prop}{W D:zA Nat}{r':um}(O:∀s∈L,q s=none/\s∈W)(hm:∀k,M=some k->k∈L)(hp:p d=none/\d∈D)(hq:q (hZ M d)=none/\hZ M d∈W)(hV:V.Le V')(Z:V.Le N)(hlv:∀s∈L,∃b,st.boxes s=some b/\(b.live->V'.H (β s)))(hK:∀s2 V2,Ū p q W D st V K s2 V2->K' s2 V2)(h:cK T give sh L M d ety β (ov p q st) V' K r' N):cK T give sh L M d ety β st V' K' r' N:=by unfold cK at h ⊢;obtain ⟨g,a,u,v,y⟩:=h;have i:a≠[]->V'.w.heap.size<=g\/ED M st β g:=by{intro c;refine (v c).imp id λh=>?_;unfold ED at h ⊢;grind [cN]};have z:a≠[]->V'.w.heap.size<=g\/V'.H g:=by{intro c;refine (i c).imp id λh=>?_;unfold ED at h;(cases M with|none=>exact h.elim|some k=>{dsimp only at h;have ⟨A,n,B⟩:=hlv k (hm k rfl);rw [n] at h;obtain ⟨cs,ty⟩:=A;cases cs<;>grind [dP,dQ,gI]})};refine ⟨g,a,u,i,Sh.s y λx r=>⟨r.1,?_⟩⟩;have C:(wG M ety (ov p q st)).box (hZ M d) ⟨.aH a,ety⟩=ov p q ((wG M ety st).box (hZ M d) ⟨.aH a,ety⟩):=by{(cases M with|none=>exact p_ hq.1|some k=>{simp only [wG];grind [p_]})};have j:=r.2;rw [C] at j;have l:∀s∈Ld M L,q s=none/\s∈W:=by{intro s f;(cases M with|none=>exact O s f|some k=>exact O s (C0.1 f).1)};refine mS l (λo E F m=>?_) j;rw [me (λk m=>by cases m;exact hp.1)] at m;refine hK _ _ ⟨rJ Z hV z,?_,?_,m⟩;{intro t G;rw [eV,Ã (λe=>G (by rw [e];exact hp.2)),E];cases M<;>rfl};intro s f;show o.boxes s=_;rw [F s f,aq,Ã (λe=>f (by rw [e];exact hq.2))];(cases M with|none=>rfl|some k=>{simp only [wG];rw [aq,Ã (λe=>f (by rw [e];exact (O k (hm k rfl)).2))]})
theorem Vv {bx:Nat->Option aZ}{L:zA Nat}(hcl:jP bx L=true):∀k,k∈wS bx L->k∈L:=by
 intro k a;unfold wS at a;have ⟨s,b,a⟩:=č.1 (cE.1 a);split at a
 ·rename_i cs ty d;refine fR hcl b d k ?_
  have:∀cs:zA C,k∈vq cs->k∈cs.flatMap C.ids:=by
   intro cs
   induction cs with
   | nil=>exact λh=>nomatch h
   | cons c r u=>
    intro h;rw [Ġ,ü]
    cases c<;>simp only [vq,ç] at h<;>first
     | exact .inr (u h)
     | (rcases h with h|h
        ·left;simp [C.ids,h]
        ·exact .inr (u h))
  exact this cs a
 ·cases a
theorem Cx {xs:zA SV}:∀k,k∈pT xs->k∈xs.flatMap SV.ids:=by
 intro k
 induction xs with
 | nil=>exact λh=>nomatch h
 | cons x r u=>
  intro h;rw [Ġ,ü];unfold pT at h;split at h
  ·rename_i heq;cases heq
  ·rename_i s n c a heq;cases heq;exact .inl h
  ·rename_i s n c a heq;cases heq;exact .inl h
  grind
def zS {bx bx':Nat->Option aZ}{L:zA Nat}(h:∀s∈L,bx' s=bx s):wS bx' L=wS bx L:=by
 unfold wS;congr 1
 induction L<;>grind
def iY {st:St}{u:Option Nat}{d:Nat}(h:q (hZ u d)=none):mc (ov p q st) u d=mc st u d:=by unfold mc;rw [cN h]
def zQ {bx bx':Nat->Option aZ}{β:Nat->Nat}{N:Nat}{L:zA Nat}(h:∀s∈L,bx' s=bx s):L.map (eZ bx' β N)=L.map (eZ bx β N):=
 Ř λs a=>by unfold eZ;rw [h s a]
def EC:∀{L:zA Nat} {st:St},(∀s∈L,q s=none)->eK (ov p q st) L 0=ov p q (eK st L 0)
 | [],_,_=>rfl
 | s::r,st,h=>by
  show eK ((ov p q st).box s ⟨.aH [],0⟩) r 0=ov p q (eK (st.box s ⟨.aH [],0⟩) r 0);rw [p_ (h s ψ)];exact EC λs u=>h s (by simp [u])
def yS {bx bx':Nat->Option aZ}{β:Nat->Nat}{V:un}:∀{L:zA Nat} {k k':Prop},(∀s∈L,bx' s=bx s)->(k->k')->vt bx β V L k->vt bx' β V L k'
 | [],_,_,_,h,g=>h g
 | s::r,k,k',u,h,g=>by
  simp only [vt] at g ⊢;rw [u s ψ];split at g
  ·exact λy=>yS (λt z=>u t (ø _ z)) h (g y)
  ·exact g.elim
def ld {f:FuncId}{xs:zA SV}{ty:TypeId}{dst:Option Nat}{st:St}{V:un}{K:St->un->Prop}{W D:zA Nat}(hm:m=.none\/((m=.au\/m=.give)/\(∀s∈ï (ov p q st).boxes 3 (ô (xs.flatMap SV.ids)),q s=none/\s∈W)/\∀k,dst=some k->∀mm,q (hZ mm k)=none/\hZ mm k∈W))(hd:∀k,dst=some k->p k=none/\k∈D){K':St->un->Prop}(hK:∀s2 V2,Ū p q W D st V K s2 V2->K' s2 V2)(hv:iw P T m f xs ty dst (ov p q st) V K):iw P T m f xs ty dst st V K':=by
 have A:∀(n:St)(x:SV),(∀t,n.aF t=st.aF t)->∀t,t∉D->(n.put dst x).aF t=st.aF t:=by intro n x h t c;(cases dst with|none=>exact h t|some d=>{rw [eV,Ã (λe=>c (by rw [e];exact (hd d rfl).2))];exact h t})
 have H:∀(n:St)(x:SV),(n.put dst x).boxes=n.boxes:=by intro n x;cases dst<;>rfl
 unfold iw at hv ⊢;split at hv
 ·exact hv.elim
 ·rename_i U a3
  have I:∀L,ï (ov p q st).boxes 3 (ô (xs.flatMap SV.ids))=L->(∀s∈L,q s=none)->ï st.boxes 3 (ô (xs.flatMap SV.ids))=L:=by intro L hL Y;rw [<-hL];exact rT 3 _ λs y=>(cN (Y s (by rw [<-hL];exact y))).symm
  have B:∀s∈xs.flatMap SV.ids,s∈ï (ov p q st).boxes 3 (ô (xs.flatMap SV.ids)):=λs y=>gJ 3 _ s (cE.2 y);generalize hr:ï (ov p q st).boxes 3 (ô (xs.flatMap SV.ids))=L at hv hm B
  cases L with
  | nil=>
   rw [I _ hr (λs y=>nomatch y)]
   have plain:(∀g:un,V.Le g->ae P f (aJ (λ_=>0) xs) g λr C=>U.ex λx=>r=x.den (λ_=>0)/\K ((ov p q st).put dst x) C) ->
     ∀g:un,V.Le g->ae P f (aJ (λ_=>0) xs) g λr C=>U.ex λx=>r=x.den (λ_=>0)/\K' (st.put dst x) C:=by
    intro hv g b;refine (hv g b).s λr C hle l=>Sh.s l λx E=>⟨E.1,?_⟩;have z:=E.2;rw [me (λk l=>(hd k l).1)] at z;exact hK _ _ ⟨b.m hle,A st x λ_=>rfl,λs _=>by rw [H],z⟩
   rcases hm with rfl|⟨rfl|rfl,-,i⟩
   ·exact plain hv
   ·exact plain hv
   ·dsimp only at hv ⊢;split at hv;{rename_i d o a4;rw [iY (i d rfl Option.none).1] at hv;split at hv;{exact hv.elim};rename_i u;intro g b;refine (hv g b).s λr C hle l=>?_;exact pW (W:=W) (D:=D) (λs y=>Å y ψ) (λk l=>by cases l) (hd d rfl) (i d rfl Option.none) b (b.m hle) (λs y=>Å y ψ) hK l};{exact plain hv};exact hv.elim
  | cons s r=>
   dsimp only at hv;split at hv
   ·exact hv.elim
   ·rename_i M
    have au:m=.au\/m=.give->(∀t∈s::r,q t=none/\t∈W)->(∀k,dst=some k->∀mm,q (hZ mm k)=none/\hZ mm k∈W) ->
      ∀{give:ut} {mm:Option Nat} {d:Nat} {o:TypeId},dst=some d->(∀k,mm=some k->k∈s::r) ->
      (∀g:un,V.Le g->nX (s::r) (λ_=>0) λβ=>kO (ov p q st).boxes β g (s::r) (ae P f (aJ β xs) (g.au ((s::r).map (eZ (ov p q st).boxes β g.w.heap.size))) (cK T give U (s::r) mm d o β (ov p q st) g K))) ->
      ∀g:un,V.Le g->nX (s::r) (λ_=>0) λβ=>kO st.boxes β g (s::r) (ae P f (aJ β xs) (g.au ((s::r).map (eZ st.boxes β g.w.heap.size))) (cK T give U (s::r) mm d o β st g K')):=by
     intro _ a i give mm d o F N hv g b;have G:∀t∈s::r,st.boxes t=(ov p q st).boxes t:=λt c=>(cN (a t c).1).symm;refine fB (λβ J=>?_) (hv g b);rw [zQ (bx:=(ov p q st).boxes) G];refine ma (bx:=(ov p q st).boxes) G (λhH v=>?_) J;refine v.s λZ C hle l=>?_;exact pW a N (hd d F) (i d F mm) b ((b.m (Br g _)).m hle) (λt c=>by rw [G t c];exact hH t c) hK l
    have base:m=.au\/m=.give->(∀t∈s::r,q t=none/\t∈W)/\(∀k,dst=some k->∀mm,q (hZ mm k)=none/\hZ mm k∈W):=by intro h;rcases hm with rfl|⟨-,O,z⟩;{rcases h with h|h<;>cases h};exact ⟨O,z⟩
    have Q:(∀t∈s::r,q t=none/\t∈W)->jP st.boxes (s::r)=true:=λa=>by rw [E6 (bx:=(ov p q st).boxes) (λt c=>(cN (a t c).1).symm)];exact M
    split at hv
    ·exact hv.elim
    ·exact hv.elim
    ·have ⟨a,i⟩:=base (.inr rfl);rw [I _ hr (λt c=>(a t c).1)];dsimp only;rw [Q a];dsimp only;have a0:=zS (bx:=(ov p q st).boxes) (bx':=st.boxes) (L:=s::r) (λt c=>(cN (a t c).1).symm);rw [a0];split at hv;{rename_i d o O z h3;rw [iY (i d rfl _).1] at hv;split at hv;{exact hv.elim};rename_i u;exact au (.inr rfl) a i rfl (λk l=>by cases l) hv};{rename_i d o k O z h3;have R:=B k (Cx k (by rw [z];simp));have a1:Jf (ov p q st).boxes k o=Jf st.boxes k o:=by{unfold Jf;rw [cN (a k R).1]};rw [a1] at hv;split at hv;{rw [iY (i d rfl _).1] at hv;split at hv;{exact hv.elim};rename_i u;exact au (.inr rfl) a i rfl (λj hj=>by cases hj;exact R) hv};rw [EC (λt c=>(a t c).1),iY (i d rfl _).1] at hv;split at hv;{exact hv.elim};rename_i u;split at hv;{exact hv.elim};intro g b;refine fB (λβ J=>?_) (hv g b);refine yS (bx:=(ov p q st).boxes) (λt c=>(cN (a t c).1).symm) (λv=>?_) J;refine v.s λZ C hle l=>?_;exact pW (W:=W) (D:=D) (st:=eK st (s::r) 0) (λs y=>Å y ψ) (λk l=>by cases l) (hd d rfl) (i d rfl Option.none) b (b.m hle) (λs y=>Å y ψ) (λs2 V2 X=>hK s2 V2 ⟨X.1,λt c=>(X.2.1 t c).m (by rw [kj]),λt c=>(X.2.2.1 t c).m (by rw [bD,Ã λh=>c (a t h).2]),X.2.2.2⟩) l};{split at hv;{exact hv.elim};rw [EC (λt c=>(a t c).1)] at hv;intro g b;refine fB (λβ J=>?_) (hv g b);refine yS (bx:=(ov p q st).boxes) (λt c=>(cN (a t c).1).symm) (λv=>?_) J;refine v.s λZ C hle l=>Sh.s l λx E=>⟨E.1,?_⟩;have z:=E.2;rw [me (λk l=>(hd k l).1)] at z;exact hK _ _ ⟨b.m hle,A (eK st (s::r) 0) x λt=>by rw [kj],λt c=>by rw [H,bD,Ã λh=>c (a t h).2],z⟩};exact hv.elim
    ·have ⟨a,i⟩:=base (.inl rfl);rw [I _ hr (λt c=>(a t c).1)];dsimp only;rw [Q a];dsimp only;have G:∀t∈s::r,st.boxes t=(ov p q st).boxes t:=λt c=>(cN (a t c).1).symm;rw [(zS (bx:=(ov p q st).boxes) (bx':=st.boxes) (L:=s::r) G)];split at hv;{intro g b;refine fB (λβ J=>?_) (hv g b);rw [zQ (bx:=(ov p q st).boxes) G];refine ma (bx:=(ov p q st).boxes) G (λ_ v=>?_) J;refine v.s λZ C hle l=>Sh.s l λx E=>⟨E.1,?_⟩;refine mS a (λn O z l=>?_) E.2;rw [me (λk l=>(hd k l).1)] at l;exact hK _ _ ⟨((b.m (Br g _)).m hle).m (Qo _),A n x O,λt c=>by rw [H];exact z t c,l⟩};{rename_i k l;have S:=Vv M k (by rw [l];simp);have a2:nZ st.boxes k=nZ (ov p q st).boxes k:=by{unfold nZ;rw [G k S]};rw [a2];split at hv;{rename_i d o a5;rw [iY (i d rfl _).1] at hv;split at hv;{exact hv.elim};rename_i u;exact au (.inl rfl) a i rfl (λj hj=>by cases hj;exact S) hv};exact hv.elim};exact hv.elim
    grind
def LQ {bx:Nat->Option aZ}:∀(n:Nat) {l l':zA Nat},(∀x∈l,x∈l')->∀x∈ï bx n l,x∈ï bx n l'
 | 0,_,_,h,x,u=>h x u
 | n+1,l,l',h,x,u=>by
  simp only [ï] at u ⊢;refine LQ n (λy z=>?_) x u<;>grind [cE]
def sH {f:FuncId}{xs:zA SV}{ty:TypeId}{dst:Option Nat}{st:St}{V:un}{K:St->un->Prop}{W D:zA Nat}(hm:m=.none\/((m=.au\/m=.give)/\(∀s∈ï (ov p q st).boxes 3 (ô (xs.flatMap SV.ids)),q s=none/\s∈W)/\∀k,dst=some k->∀y,q (hZ y k)=none/\hZ y k∈W))(z:∀k,dst=some k->p k=none/\k∈D){F:St->un->Prop}(E:∀s2 V2,Ū p q W D st V K s2 V2->F s2 V2)(u:mC P T m f xs ty dst (ov p q st) V K):mC P T m f xs ty dst st V F:=by have a:=hm;(cases m with|au=>{obtain ⟨d,g⟩:(∀s∈ï (ov p q st).boxes 3 (ô (xs.flatMap SV.ids)),q s=none/\s∈W)/\∀k,dst=some k->∀y,q (hZ y k)=none/\hZ y k∈W:=χ;unfold mC at u ⊢;dsimp only at u ⊢;rw [xA (bx:=st.boxes) (bx':=(ov p q st).boxes) (λs b=>cN (d s (gJ 3 _ s (cE.2 b))).1)] at u;split at u;{rename_i j c h e;exact ⟨λhe=>⟨(u.1 he).1,ld (.inr ⟨.inl rfl,λs b=>d s (LQ 3 (λx i=>cE.2 (DF e x (cE.1 i))) s b),g⟩) z E (u.1 he).2⟩,λhe=>ld a z E (u.2 he)⟩};exact ld a z E u}|_=>exact ld a z E u)
theorem IX {u:Nat->Option SV}{y:Nat->Option aZ}{st:St}(z:∀t,p t=none\/u t=none)(E:∀t,q t=none\/y t=none):ov p q (ov u y st)=ov u y (ov p q st):=by unfold ov;grind
def HO:Q->Option Nat
 | .app old _ _ _ _ _ _ _ _=>old
 | .yL s _ _ _ _ _ _ _=>some s
 | _=>none
def QF (T:eA)(bx:Nat->Option aZ)(l:Option (List SV))(ts:List TypeId):Q:=
 match l,ts with
 | some [b,x],[t,t']=>match aI T t,aI T t' with
  | some i,some u=>match i.k,u.k with
   | .slice e,.slice _=>match aI T e with
    | some y=>cX bx e y b x
    | none=>.fail
   | _,_=>.fail
  | _,_=>.fail
 | _,_=>.fail
def HP (bx:Nat->Option aZ)(sz:Nat)(x:SV):Option (OA×Nat ⊕ List Value):=
 match x with
 | .c (.v (.slice a k _))=>some (.inl (a,k))
 | .c (.nN s o k _)=>match bx s with
  | some ⟨.row ws,_⟩=>some (.inr (aO ws o (k*sz)))
  | _=>match gz bx s with
   | some ws=>if Nat.ble (o+k*sz) ws.length then some (.inr ((ws.drop o).take (k*sz))) else none
   | none=>none
 | .c (.eM s k c)=>match bx s with
  | some ⟨.aH ws,_⟩=>some (.inr (rY ws k c sz))
  | _=>none
 | _=>none
def PK (bx:Nat->Option aZ)(e:TypeId)(u:TI)(b:SV)(src:OA×Nat ⊕ List Value):Q:=
 match b with
 | .c (.v (.slice a n c))=>.app none a [] n c src u.size u.bytes e
 | .c (.nN s 0 n c)=>match gz bx s,nZ bx s with
  | some vs,some ty=>if Nat.beq ty e then .app (some s) none vs n c src u.size u.bytes e else .fail
  | _,_=>.fail
 | .c (.eM s n c)=>match bx s with
  | some ⟨.aH vs,ty⟩=>if Nat.beq ty e then .yL s vs n c src u.size u.bytes e else .fail
  | _=>.fail
 | _=>.fail
def Dj {bx:Nat->Option aZ}{e:TypeId}{u:TI}{b x:SV}:cX bx e u b x=match ni u.zero with
  | none=>.fail
  | some y=>if Nat.beq u.bytes 0||Nat.beq u.size 0||!(Nat.beq u.size y.length) then .fail else match HP bx u.size x with
   | none=>.fail
   | some src=>PK bx e u b src:=rfl
def Ro {bx bx':Nat->Option aZ}{sz:Nat}{x:SV}:(∀s∈x.ids,bx' s=bx s)->HP bx sz x=HP bx' sz x:=by unfold HP;split;{exact λ_=>rfl};{intro h;unfold gz;rw [h _ (by simp [SV.ids,C.ids])]};{intro h;rw [h _ (by simp [SV.ids,C.ids])]};exact λ_=>rfl
theorem TP {bx bx':Nat->Option aZ}{e:TypeId}{u:TI}{b:SV}{src:OA×Nat ⊕ zA um}:(∀s∈b.ids,bx' s=bx s)->PK bx e u b src=PK bx' e u b src:=by unfold PK;split;{exact λ_=>rfl};{intro h;unfold gz nZ;rw [h _ (by simp [SV.ids,C.ids])]};{intro h;rw [h _ (by simp [SV.ids,C.ids])]};exact λ_=>rfl
def OH {bx bx':Nat->Option aZ}{e:TypeId}{u:TI}{b x:SV}(h:∀s∈b.ids++x.ids,bx' s=bx s):cX bx e u b x=cX bx' e u b x:=by rw [Dj,Dj,Ro λs a=>h s (ĝ _ a)];grind [TP]
def LH {bx:Nat->Option aZ}{e:TypeId}{u:TI}{b x:SV}:∀s,HO (cX bx e u b x)=some s->s∈b.ids:=by intro s h;unfold cX at h;split at h;{cases h};split at h;{cases h};dsimp only at h;split at h;{cases h};split at h;{cases h};{split at h;{split at h;{cases h;simp [SV.ids,C.ids]};cases h};cases h};{split at h;{split at h;{cases h;simp [SV.ids,C.ids]};cases h};cases h};cases h
def Zk {bx bx':Nat->Option aZ}{ys:zA SV}{ts:zA TypeId}{R:zA Nat}(h:∀s∈ys.flatMap SV.ids,bx' s=bx s)(u:∀s∈ys.flatMap SV.ids,s∈R):QF T bx (some ys) ts=QF T bx' (some ys) ts/\∀s,HO (QF T bx (some ys) ts)=some s->s∈R:=by unfold QF;split;{rename_i b x t d c;cases c;split;{split;{split;{exact ⟨OH λs a=>h s (by simpa using a),λs a=>u s (by simp [LH s a])⟩};exact ⟨rfl,λs a=>nomatch a⟩};exact ⟨rfl,λs a=>nomatch a⟩};exact ⟨rfl,λs a=>nomatch a⟩};exact ⟨rfl,λs a=>nomatch a⟩
theorem SX {bx:Nat->Option aZ}{e:TypeId}{u:TI}{b x:SV}:eN (cX bx e u b x)=6\/cX bx e u b x=.fail:=by unfold cX;split;{exact .inr rfl};split;{exact .inr rfl};dsimp only;split;{exact .inr rfl};(split<;>(try split)<;>(try split)<;>first|exact .inl rfl|exact .inr rfl)
def Wj {ρ:Operand->Option SV}{bx:Nat->Option aZ}{args:Array Operand}{ts:Array TypeId}:eN (aW T ρ bx (.call ⟨.builtin .append,args,ts⟩))=6\/aW T ρ bx (.call ⟨.builtin .append,args,ts⟩)=.fail:=by simp only [aW];split<;>grind [SX]
def Jy {N:Q}{dst:Option Nat}{st:St}{V:un}{K O:St->un->Prop}{W D:zA Nat}(M:eN N=6\/N=.fail)(ho:∀s,HO N=some s->q s=none/\s∈W)(hd:∀k,dst=some k->(p k=none/\k∈D)/\∀s,q (uv s k)=none/\uv s k∈W)(hd0:∀k,dst=some k->q k=none/\k∈W)(Z:∀s2 V2,Ū p q W D st V K s2 V2->O s2 V2)(h:Ay N dst (ov p q st) V K):Ay N dst st V O:=by (cases N with|yL s vs n c x size bytes ty=>{simp only [Ay] at h ⊢;(cases dst with|none=>exact h.elim|some d=>{dsimp only at h ⊢;have ⟨⟨u,v⟩,r⟩:=hd d rfl;have ⟨B,w⟩:=ho s rfl;have core:∀k xs,zR s vs n c size bytes ty d (ov p q st) V K k xs->zR s vs n c size bytes ty d st V O k xs:=by{rintro k xs ⟨a,f,g,l,j,i⟩;refine ⟨a,f,g,l,j,?_⟩;rw [cN (r s).1] at i;split at i;{exact i.elim};intro spare y z A;have:=i spare y z A;rw [p_ B,p_ (r s).1,me (λk m=>by cases m;exact u)] at this;refine Z _ _ ⟨Ó.Le.refl V,?_,?_,this⟩;{intro t M;rw [eV,Ã (λe=>M (by rw [e];exact v))];rfl};intro t M;show ((st.box s _).box _ _).boxes t=_;grind [aq]};grind})}|app old ba vs n c x size bytes ty=>{simp only [Ay] at h ⊢;(cases dst with|none=>exact h.elim|some d=>{dsimp only at h ⊢;have ⟨⟨u,v⟩,r⟩:=hd d rfl;(cases old with|some s=>{dsimp only at h ⊢;have ⟨B,w⟩:=ho s rfl;have core:∀k xs,Kd s vs n c size bytes ty d (ov p q st) V K k xs->Kd s vs n c size bytes ty d st V O k xs:=by{rintro k xs ⟨a,f,g,l,j,i⟩;refine ⟨a,f,g,l,j,?_⟩;rw [cN (r s).1] at i;split at i;{exact i.elim};intro b J spare y z A;have:=i b J spare y z A;rw [p_ B,p_ (r s).1,me (λk m=>by cases m;exact u)] at this;refine Z _ _ ⟨Ó.Le.refl V,?_,?_,this⟩;{intro t M;rw [eV,Ã (λe=>M (by rw [e];exact v))];rfl};intro t M;show ((st.box s _).box _ _).boxes t=_;rw [aq,Ã (λe=>M (by rw [e];exact (r s).2)),aq,Ã (λe=>M (by rw [e];exact w))]};(cases x with|inr xs=>exact core _ _ h|inl ak=>{obtain ⟨xs,a,f,g⟩:=h;exact ⟨xs,a,f,core _ _ g⟩})}|none=>{dsimp only at h ⊢;obtain ⟨C,I⟩:=hd0 d rfl;obtain ⟨o,z,A,E,F,h⟩:=h;have core:∀k xs,Ke o n c size bytes ty d (ov p q st) V K k xs->Ke o n c size bytes ty d st V O k xs:=by{rintro k xs ⟨a,f,g,l,j⟩;refine ⟨a,f,g,l,?_⟩;rw [cN C] at j;split at j;{exact j.elim};intro spare y G H;have:=j spare y G H;rw [p_ C,me (λk m=>by cases m;exact u)] at this;refine Z _ _ ⟨Ó.Le.refl V,?_,?_,this⟩;{intro t M;rw [eV,Ã (λe=>M (by rw [e];exact v))];rfl};intro t M;show (st.box d _).boxes t=_;grind [aq]};refine ⟨o,z,A,E,F,?_⟩;(cases x with|inr xs=>exact core _ _ h|inl ak=>{obtain ⟨xs,a,f,g,l⟩:=h;refine ⟨xs,a,f,λe=>?_,λe=>core _ _ (l e)⟩;have:=g e;rw [me (λk m=>by cases m;exact u)] at this;refine Z _ _ ⟨Ó.Le.refl V,?_,λt M=>rfl,this⟩;intro t M;rw [eV,Ã (λe=>M (by rw [e];exact v))]})})})}|fail=>exact h.elim|_=>{rcases M with M|M<;>cases M})
def x_ {h:ý}{o:Oper}{st:St}{V:un}{K:St->un->Prop}{R W:zA Nat}(hm:rS (bM LF RF o.op)=true\/(bM LF RF o.op=.call/\m=.none)\/((bM LF RF o.op=.oG/\m=.au)\/(bM LF RF o.op=.give/\m=.give)\/bM LF RF o.op=.app))(hrw:xo (bM LF RF o.op) h (fS o)=some (R,W))(hp:∀t,t∈kI o.op\/t∈fS o->p t=none)(hq:∀s∈R,q s=none)(hqW:∀s∈W,q s=none){K':St->un->Prop}(hK:∀s2 V2,Ū p q W (fS o) st V K s2 V2->K' s2 V2)(hv:dU P T m h o (ov p q st) V K):dU P T m h o st V K':=by
 have Of:∀t∈kI o.op,st.aF t=(ov p q st).aF t:=λt ht=>by simp [ov,hp t (.inl ht)]
 rcases hm with hm|hm
 ·have ⟨p2,q2,Y⟩:=tB hm hrw hv;refine Y.again st V _ (Ó.Le.refl V) Of (λs u=>(cN (hq s u)).symm) ?_;refine hK _ _ ⟨Ó.Le.refl V,λt ht=>by simp [ov,Y.pd t ht],λs u=>by simp [ov,Y.qd s u],?_⟩;rw [IX];{exact Y.next};{intro t;by_cases h:t∈fS o;{exact .inl (hp t (.inr h))};exact .inr (Y.pd t h)};intro s;by_cases h:s∈W;{exact .inl (hqW s h)};exact .inr (Y.qd s h)
 ·
  have j:∀(x:Operand),x∈o.op.operands.toList->(ov p q st).bQ x=st.bQ x:=λx L=>Zg λt e=>hp t (.inl (CY L e))
  have n:∀k,o.dst=some k->p k=none/\k∈fS o:=λk F=>by have:k∈fS o:=by{simp [fS,F]};exact ⟨hp k (.inr this),this⟩
  have body:(¬bM LF RF o.op=.app)->∀(hh:∀xs f ss B args z,o.op=.call ⟨.value B,args,z⟩->cR (ov p q st).bQ args.toList=some xs->(ov p q st).bQ B=some (.c (.uX f ss)) ->
    m=.none\/((m=.au\/m=.give)/\(∀s∈ï (ov p q st).boxes 3 (ô ((xs++Ci ss).flatMap SV.ids)),q s=none/\s∈W)/\∀k,o.dst=some k->∀G,q (hZ G k)=none/\hZ G k∈W)),
    d_ P T m o (ov p q st) V K->d_ P T m o st V K':=by
   intro a hh hv;unfold d_ at hv ⊢;split at hv
   ·rename_i B args z g;have e1:cR (ov p q st).bQ args.toList=cR st.bQ args.toList:=fZ _ λx L=>j x (by rw [g];simp [Op.operands,Call.operands];exact .inr (by simpa using L));have e2:=j B (by rw [g];simp [Op.operands,Call.operands]);split at hv;{rename_i xs i;split at hv;{rename_i f ss D;have M:=hh _ _ _ _ _ _ g i D;rw [e1] at i;rw [e2] at D;simp only [i,D];exact sH M n hK hv};{rename_i f vs D;rw [e1] at i;rw [e2] at D;simp only [i,D];exact sH (.inl rfl) n hK hv};exact hv.elim};exact hv.elim
   ·rename_i recv name args z g;have a3:m=.none:=by{rw [g] at hm;rcases hm with ⟨-,h⟩|⟨h,-⟩|⟨h,-⟩|h;{exact h};{cases h};{cases h};cases h};have e1:cR (ov p q st).bQ args.toList=cR st.bQ args.toList:=fZ _ λx L=>j x (by rw [g];simp [Op.operands,Call.operands];exact .inr (by simpa using L));split at hv;{rename_i xs i;split at hv;{rename_i t v D;split at hv;{rename_i f UZ;rw [e1] at i;rw [(j recv (by rw [g];simp [Op.operands,Call.operands]))] at D;simp only [i,D,UZ];exact sH (.inl a3) n hK hv};exact hv.elim};exact hv.elim};exact hv.elim
   ·rename_i a0 H;exfalso;have N:bM LF RF o.op=.call\/bM LF RF o.op=.oG\/bM LF RF o.op=.give:=by{rcases hm with ⟨h,-⟩|⟨h,-⟩|⟨h,-⟩|h;{exact .inl h};{exact .inr (.inl h)};{exact .inr (.inr h)};exact Å h a};clear hm a hh;generalize g:o.op=op at N a0 H;(cases op with|call c=>{obtain ⟨PX,args,z⟩:=c;(cases PX with|builtin b=>{cases b<;>rcases N with h|h|h<;>cases h}|value f=>exact a0 f args z rfl|invoke r nm=>exact H r nm args z rfl)}|_=>{rcases N with h|h|h<;>cases h})
  have O:∀l:zA Nat,W=l++fS o++(fS o).map (·+ 200000)->∀k,o.dst=some k->∀G,q (hZ G k)=none/\hZ G k∈W:=by intro l Z k F G;have:hZ G k∈W:=by{rw [Z];rcases VC (m:=G) (d:=k) with h|h<;>rw [h]<;>simp [((n k F).2)]};exact ⟨hqW _ this,this⟩
  have own:∀l:zA Nat,h=.own l->R=l->W=l++fS o++(fS o).map (·+ 200000)->(bM LF RF o.op=.oG\/bM LF RF o.op=.give\/bM LF RF o.op=.app)->(¬bM LF RF o.op=.app->m=.au\/m=.give)->dU P T m h o st V K':=by
   intro l hh hR Z a5 M;subst hh hR;unfold dU at hv ⊢;dsimp only at hv ⊢;split at hv
   ·rename_i ys w;split at hv
    ·rename_i I;have e0:=fZ _ λx L=>j x (CX L);rw [<-e0,w];dsimp only;have E:=DG.1 I
     have e3:iq st.boxes o.op (ys.flatMap SV.ids)=iq (ov p q st).boxes o.op (ys.flatMap SV.ids):=by revert E;unfold iq;split;{intro E;exact rT 3 _ λs u=>(cN (hq s (E s u))).symm};exact λ_=>rfl
     rw [e3,I];dsimp only;have a4:∀s∈R,s∈W:=λs u=>by rw [Z];simp [u]
     by_cases a:bM LF RF o.op=.app
     ·
      have g:∃args z,o.op=.call ⟨.builtin .append,args,z⟩:=by
       generalize o.op=op at a
       cases op with
       | call c=>
        obtain ⟨PX,args,z⟩:=c
        cases PX with
        | builtin b=>cases b<;>first|exact ⟨args,z,rfl⟩|cases a
        | value f=>cases f with
         | func f=>simp only [bM] at a;split at a<;>(try split at a)<;>(try split at a)<;>(try split at a)<;>cases a
         | _=>cases a
        | _=>cases a
       | _=>cases a
      obtain ⟨args,z,g⟩:=g
      have e4:aW T st.bQ st.boxes o.op=aW T (ov p q st).bQ (ov p q st).boxes o.op/\∀s,HO (aW T st.bQ st.boxes o.op)=some s->s∈R:=by have e5:cR (ov p q st).bQ args.toList=cR st.bQ args.toList:=by{rw [g] at e0;exact e0};have a1:cR st.bQ args.toList=some ys:=by{rw [g] at w;rw [<-e5];exact w};have J:∀s∈ys.flatMap SV.ids,s∈R:=by{intro s u;refine E s ?_;rw [g];simp only [iq];exact gJ 3 _ s (cE.2 u)};rw [g];simp only [aW];rw [e5,a1];exact Zk (λs u=>by rw [cN (hq s (J s u))]) J
      have Q:Ay (aW T (ov p q st).bQ (ov p q st).boxes o.op) o.dst (ov p q st) V K:=by unfold d_ at hv;rw [g] at hv ⊢;exact hv
      have S:Ay (aW T st.bQ st.boxes o.op) o.dst st V K'->d_ P T m o st V K':=by intro h;unfold d_;rw [g] at h ⊢;exact h
      rw [<-e4.1] at Q;refine S ?_
      have a2:∀Q0,aW T st.bQ st.boxes o.op=Q0->eN Q0=6\/Q0=.fail:=by intro Q0 hQ;rw [<-hQ,g];exact Wj
      generalize hQ0:aW T st.bQ st.boxes o.op=Q0 at Q e4
      exact Jy (a2 Q0 hQ0) (λs u=>⟨hq s (e4.2 s u),a4 s (e4.2 s u)⟩) (λk F=>⟨n k F,λs=>by
       have:=O R Z k F (some s);exact this⟩) (λk F=>O R Z k F Option.none) hK Q
     ·have U:=M a;refine body a (λxs f ss B args z g i D=>.inr ⟨U,λs u=>?_,O R Z⟩) hv
      have:s∈R:=by
       apply E;rw [g] at w ⊢;simp only [iq]
       have hy:ys.flatMap SV.ids=(xs++Ci ss).flatMap SV.ids:=by
        have:∀(l:zA Operand)(xs:zA SV)(x:Operand)(v:SV),cR (ov p q st).bQ l=some xs->(ov p q st).bQ x=some v->cR (ov p q st).bQ (l++[x])=some (xs++[v]):=by
         intro l
         induction l with
         | nil=>intro xs x v X h2;simp only [cR,ā] at X;subst X;simp [cR,h2]
         | cons o r ih=>
          intro xs x v X h2;simp only [cR] at X;split at X
          ·rename_i y l' h3 h4;cases X;simp only [Qc1,cR,h3,ih _ x v h4 h2]
          ·cases X
        simp only [nH] at w;rw [this _ _ _ _ i D] at w;cases w;simp only [Qc3];congr 1;simp [Ci,SV.ids,C.ids,List.flatMap_map]
       grind
      grind
    ·exact hv.elim
   ·exact hv.elim
  rcases hm with ⟨A,hm⟩|⟨A,hm⟩|⟨A,hm⟩|A
  ·rw [A] at hrw;(cases h with|own l=>{cases hrw}|free=>{exact body (by rw [A];exact λh=>by cases h) (λ_ _ _ _ _ _ _ _ _=>.inl hm) hv})
  ·rw [A] at hrw;(cases h with|free=>{cases hrw}|own l=>{simp only [xo,ā,Ŗ] at hrw;exact own l rfl hrw.1.symm hrw.2.symm (.inl A) (λ_=>.inl hm)})
  ·rw [A] at hrw;(cases h with|free=>{cases hrw}|own l=>{simp only [xo,ā,Ŗ] at hrw;exact own l rfl hrw.1.symm hrw.2.symm (.inr (.inl A)) (λ_=>.inr hm)})
  ·rw [A] at hrw;(cases h with|free=>{cases hrw}|own l=>{simp only [xo,ā,Ŗ] at hrw;exact own l rfl hrw.1.symm hrw.2.symm (.inr (.inr A)) (λh=>Å A h)})
end
section
variable{P:Program}{T:eA}{LF RF:List Nat}
def EI (ops:Array Oper)(o:Oper)(st:St)(k:St->Bool->Prop):Prop:=
 match o.guard with
 | none=>k st true
 | some (j,b)=>match (ops[j]?).bind (·.dst) with
  | none=>False
  | some g=>match st.aF g with
   | some (.c .tt)=>k st b
   | some (.c .ff)=>k st (!b)
   | some (.c (.v (.bool c)))=>(c=true->k (st.put (some g) (.c .tt)) b)/\(c=false->k (st.put (some g) (.c .ff)) (!b))
   | some (.xU _)=>k st false
   | _=>False
def qu (P:Program)(T:eA)(m:CM)(h:ý)(o:Oper)(V:Ó)(K:St->Ó->Prop)(st:St)(w:Bool):Prop:=
 match w with
 | true=>dU P T m h o st V K
 | false=>K (st.put o.dst mz) V
def Jx {m:CM}{h:ý}{ops:Array Oper}{o:Oper}{st:St}{V:un}{K:St->un->Prop}:xJ P T m h ops o st V K↔EI ops o st (qu P T m h o V K):=by unfold xJ EI;(cases y:o.guard with|none=>rfl|some u=>{obtain ⟨j,b⟩:=u;dsimp only;(cases z:(ops[j]?).bind (·.dst) with|none=>rfl|some g=>{dsimp only;split<;>simp_all<;>cases b<;>rfl})})
def ux:Nat->Option aZ:=λ_=>none
structure GOut (ops:Array Oper) (o:Oper) (st:St) (k:St->Bool->Prop) (p:Nat->Option SV) (w:Bool):Prop where
 pd:∀t,t∉gR ops o->p t=none
 next:k (ov p ux st) w
 again:∀(iO:St)(k2:St->Bool->Prop),(∀t∈gR ops o,iO.aF t=st.aF t)->k2 (ov p ux iO) w->EI ops o iO k2
def iK {ops:Array Oper}{o:Oper}{st:St}{k:St->ut->Prop}(h:EI ops o st k):∃p w,GOut ops o st k p w:=by unfold EI at h;split at h;{rename_i i;exact ⟨λ_=>none,true,λ_ _=>rfl,h,λiO n _ d=>by unfold EI;rw [i];exact d⟩};rename_i j b i;split at h;{exact h.elim};rename_i g m;have a:gR ops o=[g]:=by{simp only [gR,i,m]};split at h;{rename_i l;exact ⟨λ_=>none,b,λ_ _=>rfl,h,λiO n f d=>by unfold EI;simp only [i,m,f g (by simp [a]),l];exact d⟩};{rename_i l;exact ⟨λ_=>none,!b,λ_ _=>rfl,h,λiO n f d=>by unfold EI;simp only [i,m,f g (by simp [a]),l];exact d⟩};{rename_i c l;(cases c with|true=>{refine ⟨one (some g) (.c .tt),b,λt q=>fy (by intro e;apply q;rw [a];simpa using e.symm),?_,λiO n f d=>?_⟩;{have:=h.1 rfl;rw [gT] at this;exact this};unfold EI;simp only [i,m,f g (by simp [a]),l];exact ⟨λ_=>by rw [gT];exact d,λe=>by cases e⟩}|false=>{refine ⟨one (some g) (.c .ff),!b,λt q=>fy (by intro e;apply q;rw [a];simpa using e.symm),?_,λiO n f d=>?_⟩;{have:=h.2 rfl;rw [gT] at this;exact this};unfold EI;simp only [i,m,f g (by simp [a]),l];exact ⟨λe=>(by cases e),λ_=>by rw [gT];exact d⟩})};{rename_i xs l;exact ⟨λ_=>none,false,λ_ _=>rfl,h,λiO n f d=>by unfold EI;simp only [i,m,f g (by simp [a]),l];exact d⟩};exact h.elim
def sI {ops:Array Oper}{o:Oper}{st:St}{k k':St->ut->Prop}(u:∀s w,k s w->k' s w)(h:EI ops o st k):EI ops o st k':=by have ⟨p,w,a⟩:=iK h;grind [a.again,a.next]
def put_comm {st:St}{d d':Option Nat}{x y:SV}(h:∀k,d=some k->d'≠some k):(st.put d x).put d' y=(st.put d' y).put d x:=by (cases d with|none=>rfl|some d=>{(cases d' with|none=>rfl|some d'=>{have a:d≠d':=λe=>h d rfl (by rw [e]);simp only [St.put];grind [iC]})})
def N7 {ops:Array Oper}{y z:Oper}{st:St}{F:St->ut->ut->Prop}(h:EI ops y st λs E=>EI ops z s λs' M=>F s' E M):EI ops z st λs M=>EI ops y s λs' E=>F s' E M:=by by_cases f:∃g,gR ops y=[g]/\gR ops z=[g];{obtain ⟨g,a,b⟩:=f;unfold gR at a b;split at a;{cases a};rename_i u b1 i;split at a;{rename_i v j;cases a;split at b;{cases b};rename_i w b2 k;split at b;{rename_i x l;cases b;unfold EI at h ⊢;simp only [i,k,j,l] at h ⊢;split at h;{rename_i n;exact h};{rename_i n;exact h};{grind [eV]};{rename_i xs n;exact h};exact h.elim};cases b};cases a};have ⟨q,E,d⟩:=iK h;have ⟨r,M,e⟩:=iK d.next;have p:∀o:Oper,gR ops o=[]\/∃g,gR ops o=[g]:=by{intro o;unfold gR;grind};have c:∀t,t∈gR ops y->t∉gR ops z:=χ;refine e.again st _ (λt m=>?_) (d.again _ _ (λt m=>?_) ?_);{show st.aF t=(ov q ux st).aF t;simp [ov,d.pd t (λh=>c t h m)]};{show (ov r ux st).aF t=st.aF t;simp [ov,e.pd t (c t m)]};grind [ux,IX,e.pd,d.pd,e.next]
theorem kW {o:Oper}{k:Nat}(h:o.dst=some k):k∈fS o:=by simp [fS,h]
def Y_ {ops:Array Oper}{m1 m2:CM}{h1 h2:ý}{o1 Z:Oper}{st:St}{V:un}{K:St->un->Prop}(hi:ğ LF RF ops h1 h2 o1 Z=true)(hm:rS (bM LF RF Z.op)=true\/(bM LF RF Z.op=.call/\m2=.none)\/((bM LF RF Z.op=.oG/\m2=.au)\/(bM LF RF Z.op=.give/\m2=.give)\/bM LF RF Z.op=.app))(hv:xJ P T m1 h1 ops o1 st V λst1 V1=>xJ P T m2 h2 ops Z st1 V1 K):xJ P T m2 h2 ops Z st V λiO V2=>xJ P T m1 h1 ops o1 iO V2 K:=by unfold ğ at hi;simp only [Č] at hi;obtain ⟨⟨⟨⟨⟨v,f⟩,g⟩,w⟩,y⟩,l⟩:=hi;split at l;{rename_i S U W X z o;simp only [Č] at l;obtain ⟨⟨L,n⟩,A⟩:=l;rw [KQ] at f g w y L n A;have B:∀k,Z.dst=some k->o1.dst≠some k:=λk C F=>f k (kW F) (by simp [kW C]);simp only [Jx] at hv ⊢;have O:EI ops o1 st λs m=>EI ops Z s λD j=>qu P T m1 h1 o1 V (λr G=>qu P T m2 h2 Z G K r j) D m:=by{refine sI (λs m c=>?_) hv;(cases m with|true=>{have ⟨p,q,i⟩:=tB v z c;have ⟨E,j,b⟩:=iK i.next;refine b.again s _ (λt a=>?_) ?_;{show s.aF t=(ov p q s).aF t;simp [ov,i.pd t (λh=>f t h (by simp [a]))]};refine i.again _ V _ (Ó.Le.refl V) (λt a=>?_) (λ_ _=>rfl) ?_;{show (ov E ux s).aF t=s.aF t;simp [ov,b.pd t (λh=>y t h a)]};grind [IX,ux,b.next,i.pd,b.pd]}|false=>{simp only [qu] at c;have ⟨E,j,b⟩:=iK c;have Q:∀k,o1.dst=some k->E k=none:=λk C=>b.pd k (λh=>f k (kW C) (by simp [h]));refine b.again s _ (λt a=>?_) ?_;{rw [gT];simp [ov,fy (d:=o1.dst) (x:=mz) (t:=t) (λh=>f t (kW h) (by simp [a]))]};show qu P T m2 h2 Z V K ((ov E ux s).put o1.dst mz) j;rw [me Q];exact b.next})};have R:EI ops Z st λs j=>EI ops o1 s λD m=>qu P T m2 h2 Z V (λr G=>qu P T m1 h1 o1 G K r m) D j:=by{refine sI (λs j c=>sI (λD m c=>?_) c) (N7 O);(cases m with|true=>{have ⟨p,q,i⟩:=tB v z c;(cases j with|true=>{refine x_ hm o (λt a=>i.pd t (λh=>f t h (by rcases a with a|a<;>simp [a]))) (λs u=>i.qd s (λh=>L s h u)) (λs u=>i.qd s (λh=>A s h u)) (λs2 V2 b=>?_) i.next;obtain ⟨M,H,N,I⟩:=b;exact i.again s2 V2 K M (λt a=>H t (λh=>g t h (by simp [a]))) (λs u=>N s (λh=>n s h u)) I}|false=>{refine i.again _ V K (Ó.Le.refl V) (λt a=>?_) (λs _=>by cases Z.dst<;>rfl) ?_;{rw [gT];simp [ov,fy (d:=Z.dst) (x:=mz) (t:=t) (λh=>g t (kW h) (by simp [a]))]};grind [i.next,qu,me,i.pd,kW]})}|false=>{(cases j with|true=>{simp only [qu] at c ⊢;rw [gT] at c;refine x_ hm o (λt a=>fy (λe=>f t (kW e) (by rcases a with a|a<;>simp [a]))) (λs u=>rfl) (λs u=>rfl) (λs2 V2 b=>?_) c;have:=b.2.2.2;grind [gT]}|false=>{simp only [qu] at c ⊢;rw [put_comm B];exact c})})};refine sI (λs j c=>?_) R;(cases j with|true=>{simp only [qu] at c ⊢;have ⟨p,m,b⟩:=iK c;refine x_ hm o (λt a=>b.pd t (λh=>?_)) (λ_ _=>rfl) (λ_ _=>rfl) (λs2 V2 J=>?_) b.next;{rcases a with a|a;{exact w t h a};exact g t a (by simp [h])};obtain ⟨M,H,N,I⟩:=J;exact b.again s2 _ (λt a=>H t (λh=>g t h (by simp [a]))) I}|false=>{simp only [qu] at c ⊢;have ⟨p,m,b⟩:=iK c;refine b.again _ _ (λt a=>?_) ?_;{rw [gT];simp [ov,fy (d:=Z.dst) (x:=mz) (t:=t) (λh=>g t (kW h) (by simp [a]))]};{have:=b.next;rw [me (λk C=>b.pd k (λh=>g k (kW C) (by simp [h])))] at this;exact this}})};cases l
end
end Go.Eng
