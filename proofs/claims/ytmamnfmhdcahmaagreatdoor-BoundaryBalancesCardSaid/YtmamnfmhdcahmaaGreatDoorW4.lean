import Derived.Test.YtmamnfmhdcahmaaGreatDoorW3
set_option linter.all false
namespace Go.Eng
section
variable {P:Program} {T:dW} {n:Nat} {V0:Ó} {bQ:Mw} {β0:Nat->Nat} {st:St} {β:Nat->Nat} {a:Act} {w:World} {V:Ó}
def NB {t:TypeId}{name:String}{f:FuncId}(h:NA P t name=some f)(k:Nat)(v:um)(w:World):(Go.method (k+1) t v name).run P w=.ok (f,v) w:=by unfold NA at h;split at h;{rename_i i d b c;split at h;{rename_i m hm;split at h;{rename_i j l e g;cases h;have a:m.path=#[]:=by{apply ŀ;exact e};simp only [Go.method,typeInfo,Sem.run_bind,run_program,Result.andThen_ok,b,hm,Sem.run_pure,a,follow,g,receiverAt,aj c,Place.get]};{cases h}};{cases h}};{cases h}
def yX (hT:dW.ok P T)(F:Þ n V0 bQ β0 st β a w V){m:CM}{o:Oper}{K:St->un->Prop}{next:Act->World->Prop}{Q:Exit->Act->World->Prop}(N:∀d,o.dst=some d->d<n)(E:dV P T m o st V K)(O:∀M β' Z w' V',Þ n V0 bQ β0 M β' Z w' V'->K M V'->next Z w'):o.wp P a w next Q:=by unfold dV at E;split at E;{rename_i B args x e;split at E;{rename_i xs g;have ⟨q,y⟩:=iB F _ _ g;split at E;{rename_i f r h;have ⟨i,j⟩:=uN (Q:=Q) F N E O;have k:args.map a.eval=(xs.map (SV.den β)).toArray:=by{apply ŀ;rw [Qf0];exact q};have l:aI β (xs++B4 r)=(xs.map (SV.den β)).toArray++(r.map λs=>Value.pointer (some ⟨β s,0,none⟩)).toArray:=by{unfold aI B4;grind [SV.den,C.den]};have b:(execOp a.eval o).run P w=.ok (.enter f (aI β (xs++B4 r))) w:=by{rw [l];simp only [execOp,e,resolve,F.eval h,SV.den,C.den,Deferred.ofValue,pure_bind,invoke,k,Array.empty_append];exact i.run _};unfold Oper.wp;rw [b];exact j};{rename_i f p h;have ⟨i,j⟩:=uN (Q:=Q) F N E O;have k:args.map a.eval=(xs.map (SV.den β)).toArray:=by{apply ŀ;rw [Qf0];exact q};have u:(p.map C.v).map (C.den β)=p:=by{rw [Qs1];exact Wv8 _};have l:aI β (.agg (p.map .v)::xs)=#[.agg p.toArray]++(xs.map (SV.den β)).toArray:=by{unfold aI;rw [ĺ,SV.den,u];simp};have b:(execOp a.eval o).run P w=.ok (.enter f (aI β (.agg (p.map .v)::xs))) w:=by{rw [l];simp only [execOp,e,resolve,F.eval h,SV.den,C.den,Deferred.ofValue,pure_bind,invoke,k,Array.append_empty];exact i.run _};unfold Oper.wp;rw [b];exact j};{exact E.elim}};{exact E.elim}};{rename_i recv name args x e;split at E;{rename_i xs g;have ⟨q,y⟩:=iB F _ _ g;split at E;{rename_i t v h;split at E;{rename_i f z;have ⟨i,j⟩:=uN (Q:=Q) F N E O;have k:args.map a.eval=(xs.map (SV.den β)).toArray:=by{apply ŀ;rw [Qf0];exact q};have l:aI β (.c (.w v)::xs)=#[v]++(xs.map (SV.den β)).toArray:=by{unfold aI;grind [SV.den,C.den]};have b:(execOp a.eval o).run P w=.ok (.enter f (aI β (.c (.w v)::xs))) w:=by{rw [l];have u:(#[Value.iface t v]++(xs.map (SV.den β)).toArray).extract 1 (#[Value.iface t v]++(xs.map (SV.den β)).toArray).size=(xs.map (SV.den β)).toArray:=χ;have A:(#[Value.iface t v]++(xs.map (SV.den β)).toArray)[0]?=some (Value.iface t v):=ψ;simp only [execOp,e,resolve,F.eval h,SV.den,C.den,pure_bind,invoke,k,A,u,callMethod,Sem.run_bind,run_program,Result.andThen_ok,Made.depth];rw [NB z];exact i.run _};unfold Oper.wp;rw [b];exact j};{exact E.elim}};{exact E.elim}};{exact E.elim}};{grind [K5]}
theorem kZ (hT:dW.ok P T)(z:Þ n V0 bQ β0 st β a w V){m h o}{K:St->un->Prop}{next:Act->World->Prop}{Q:Exit->Act->World->Prop}(E:∀d,o.dst=some d->d<n)(u:dO P T m h o st V K)(F:∀y β' M w' V',Þ n V0 bQ β0 y β' M w' V'->K y V'->next M w'):o.wp P a w next Q:=by unfold dO at u;split at u;{exact yX hT z E u F};{split at u;{split at u;{exact yX hT z E u F};{exact u.elim}};{exact u.elim}}
def Þ.refine (u:Þ n V0 bQ β0 st β a w V){g:Nat}{x y:SV}(F:st.aA g=some x)(he:x.den β=y.den β)(E:y.ids=[]):Þ n V0 bQ β0 (st.put (some g) y) β a w V:=by refine ⟨u.defers,u.size,?_,?_,u.Eg,u.boxes,u.inj,u.tJ,u.Af,u.ext,u.own,u.oV,u.mY,u.small⟩;{grind [eF,u.aA]};{intro t z b;rw [eF] at b;split at b;{simp only [ā] at b;rw [<-b,E];exact λs c=>(nomatch c)};{exact u.Eh t z b}}
def OO {ops:Array Oper}{tmps:Array um}{j g:Nat}(u:(ops[j]?).bind (·.dst)=some g):yielded ops tmps j=match tmps.getD g undef with|.bool b=>some b|_=>none:=by unfold yielded;rw [u];simp only [Option.bind_some];by_cases h:g<tmps.size;{have a:=getElem?_pos tmps g h;have c:tmps.getD g undef=tmps[g]:=by{simp [h]};grind};{simp [h,undef]}
def KS (hT:dW.ok P T)(z:Þ n V0 bQ β0 st β a w V){m:CM}{h:û}{ops:Array Oper}{o:Oper}{K:St->un->Prop}{next:Act->World->Prop}{Q:Exit->Act->World->Prop}(E:∀d,o.dst=some d->d<n)(y:xg P T m h ops o st V K)(F:∀M β' N w' V',Þ n V0 bQ β0 M β' N w' V'->K M V'->next N w'):if Region.wanted o (yielded ops a.tmps) then o.wp P a w next Q else next (a.put o.dst undef) w:=by unfold xg at y;split at y;{grind [Region.wanted,kZ]};{rename_i j b t;split at y;{exact y.elim};{rename_i g l;have u:=OO (tmps:=a.tmps) l;have f:∀c:ut,a.tmps.getD g undef=.bool c->(Region.wanted o (yielded ops a.tmps)=true↔c=b):=by{grind [Region.wanted]};have skip:∀{ik:St},Þ n V0 bQ β0 ik β a w V->K (ik.put o.dst l_) V->next (a.put o.dst undef) w:=by{intro ik p q;exact F _ _ _ _ _ (p.K0 E rfl (cw rfl)) q};split at y;{rename_i k;have i:=z.aA g _ k;split at y;{rw [Ä ((f true i).2 rfl)];exact kZ hT z E y F};{rw [Ã (λh=>by have:=(f true i).1 h;cases this)];exact skip z y}};{rename_i k;have i:=z.aA g _ k;split at y;{rw [Ã (λh=>by have:=(f false i).1 h;cases this)];exact skip z y};{rw [Ä ((f false i).2 rfl)];exact kZ hT z E y F}};{rename_i c k;have i:=z.aA g _ k;have r:c=true->Þ n V0 bQ β0 (st.put (some g) (.c .tt)) β a w V:=λe=>z.refine k (by rw [e];rfl) rfl;have s:c=false->Þ n V0 bQ β0 (st.put (some g) (.c .ff)) β a w V:=λe=>z.refine k (by rw [e];rfl) rfl;split at y;{(cases c with|true=>{rw [Ä ((f true i).2 rfl)];exact kZ hT (r rfl) E (y.1 rfl) F}|false=>{rw [Ã (λh=>by have:=(f false i).1 h;cases this)];exact skip (s rfl) (y.2 rfl)})};{(cases c with|true=>{rw [Ã (λh=>by have:=(f true i).1 h;cases this)];exact skip (r rfl) (y.1 rfl)}|false=>{rw [Ä ((f false i).2 rfl)];exact kZ hT (s rfl) E (y.2 rfl) F})}};{rename_i xs k;have i:=z.aA g _ k;grind [Region.wanted,SV.den]};{exact y.elim}}}
def Gw (hT:dW.ok P T){m:Nat->CM}{hint:Nat->û}{ops:Array Oper}(F:∀(i:Nat)(o:Oper),ops[i]?=some o->∀d,o.dst=some d->d<n){Q:Exit->Act->World->Prop}{K:St->un->Prop}(M:∀u β' z w' V',Þ n V0 bQ β0 u β' z w' V'->K u V'->Q .normal z w'):∀(l:zA Nat)(st:St)(β:Nat->Nat)(a:Act)(w:World)(V:un),Þ n V0 bQ β0 st β a w V->V_ P T m hint ops l st V K->wpOps P ops Q l a w
 | [],st,β,a,w,V,E,y=>M _ _ _ _ _ E y
 | i::r,st,β,a,w,V,E,y=>by
  simp only [V_] at y;simp only [wpOps];split at y
  ·rename_i o N;rw [N];dsimp only;have:=KS (Q:=Q) (next:=wpOps P ops Q r) hT E (F i o N) y (λu β' z w' V' b c=>Gw hT F M r u β' z w' V' b c);grind
  ·exact y.elim
end
section
def ov (p:Nat->Option SV)(q:Nat->Option aY)(st:St):St:=
 ⟨λt=>match p t with|some x=>some x|none=>st.aA t,λt=>match q t with|some x=>some x|none=>st.boxes t⟩
theorem g_ {a b}(h:a≠b):Nat.beq a b=false:=by cases u:Nat.beq a b;{rfl};{exact Å (beq_eq.1 u) h}
section
variable {p:Nat->Option SV} {q:Nat->Option aY} {st:St}
theorem lP {d x}(h:∀k,d=some k->p k=none):(ov p q st).put d x=ov p q (st.put d x):=by (cases d with|none=>rfl|some d=>{have a:=h d rfl;simp only [ov,St.put];grind [g_]})
theorem pS {s b}(h:q s=none):(ov p q st).box s b=ov p q (st.box s b):=by simp only [ov,St.box];grind [g_]
theorem cI {s}(h:q s=none):(ov p q st).boxes s=st.boxes s:=by simp [ov,h]
def Yc {x:Operand}(h:∀t,x=.tmp t->p t=none):(ov p q st).bK x=st.bK x:=by (cases x with|tmp t=>simp [St.bK,ov,h t rfl]|_=>rfl)
def one {α:Type}(d:Option Nat)(x:α):Nat->Option α:=λt=>match d with|some k=>cond (Nat.beq t k) (some x) none|none=>none
theorem eU {α:Type}{d:Option Nat}{x:α}{t:Nat}(h:d≠some t):one d x t=none:=by cases d<;>grind [one,g_]
theorem gJ (d x):st.put d x=ov (one d x) (λ_=>none) st:=by (cases d with|none=>rfl|some d=>grind [ov,St.put,one])
theorem S4 (s b):st.box s b=ov (λ_=>none) (one (some s) b) st:=by grind [ov,St.box,one]
def FL (s:Nat)(b:aY)(d:Option Nat)(x:SV):(st.box s b).put d x=ov (one d x) (one (some s) b) st:=by rw [gJ,S4];rfl
end
def fN {ρ ρ':Operand->Option SV}:∀l:zA Operand,(∀x∈l,ρ x=ρ' x)->cO ρ l=cO ρ' l
 | [],_=>rfl
 | o::r,h=>by simp only [cO];rw [h o ψ,fN r λx u=>h x (by simp [u])]
def nj {ρ ρ':Operand->Option SV}:∀l:zA (Nat×Operand),(∀x∈l.map (·.2),ρ x=ρ' x)->ö ρ l=ö ρ' l
 | [],_=>rfl
 | (i,o)::r,h=>by simp only [ö];rw [h o ψ,nj r λx u=>h x (by simp only [ĺ,ç];exact .inr u)]
theorem NI {ρ ρ'}:∀l:Option Operand,(∀x,l=some x->ρ x=ρ' x)->Ic ρ l=Ic ρ' l
 | none,_=>rfl
 | some o,h=>by simp only [Ic];rw [h o rfl]
def rK {T:dW}{ρ ρ':Operand->Option SV}{bx:Nat->Option aY}{op:Op}(h:∀x∈op.operands.toList,ρ x=ρ' x):aT T ρ bx op=aT T ρ' bx op:=by (cases op with|move x=>{simp only [aT];rw [h x (by simp [Op.operands])]}|assign x=>{simp only [aT];rw [h x (by simp [Op.operands])]}|pick c a b=>{simp only [aT];rw [h c (by simp [Op.operands]),h a (by simp [Op.operands]),h b (by simp [Op.operands])]}|box t x=>{simp only [aT];rw [h x (by simp [Op.operands])]}|build t u=>{simp only [aT];rw [nj _ λx g=>h x (by simpa [Op.operands] using g)]}|buildSlice t n u=>{simp only [aT];rw [nj _ λx g=>h x (by simpa [Op.operands] using g)]}|load t a=>{simp only [aT];rw [h a (by simp [Op.operands])]}|store t a x=>{simp only [aT];rw [h a (by simp [Op.operands]),h x (by simp [Op.operands])]}|nilCheck x=>{simp only [aT];rw [h x (by simp [Op.operands])]}|binOp o z x y E=>{simp only [aT];rw [h x (by simp [Op.operands]),h y (by simp [Op.operands])]}|unOp o z x=>{cases o<;>simp only [aT]<;>rw [h x (by simp [Op.operands])]}|convert s d x=>{simp only [aT];rw [h x (by simp [Op.operands])]}|makeFunc fn first caps=>{(cases fn with|func f=>{have k:cO ρ caps.toList=cO ρ' caps.toList:=fN _ λx g=>h x (by simp [Op.operands];exact .inr (by simpa using g));have l:∀x∈first.toList,ρ x=ρ' x:=λx g=>h x (by simp [Op.operands];exact .inl (by simpa using g));simp only [aT,k];(split<;>try rfl);rename_i x g;rw [l x (by rw [g];simp)]}|_=>rfl)}|makeSlice t a b=>{simp only [aT];rw [h a (by simp [Op.operands]),h b (by simp [Op.operands])]}|slice t x lo hi mx=>{simp only [aT];grind [Op.operands,NI]}|fieldAddr t x f=>{simp only [aT];rw [h x (by simp [Op.operands])]}|field t x f=>{simp only [aT];rw [h x (by simp [Op.operands])]}|indexAddr t x i=>{simp only [aT];rw [h x (by simp [Op.operands]),h i (by simp [Op.operands])]}|extract x j=>{simp only [aT];rw [h x (by simp [Op.operands])]}|index t x i=>{simp only [aT];rw [h x (by simp [Op.operands]),h i (by simp [Op.operands])]}|makeInterface t x=>{simp only [aT];rw [h x (by simp [Op.operands])]}|call c=>{obtain ⟨m,args,p⟩:=c;(cases m with|builtin b=>{have e:cO ρ args.toList=cO ρ' args.toList:=fN _ λx g=>h x (by simpa [Op.operands,Call.operands] using g);cases b<;>simp only [aT]<;>rw [e]}|_=>rfl)}|_=>rfl)
def Vg {T:dW}{LF RF:zA Nat}{ρ:Operand->Option SV}{bx bx':Nat->Option aY}{op:Op}(h:bG LF RF op=.pure\/bG LF RF op=.alloc):aT T ρ bx op=aT T ρ bx' op:=by (cases op with|load t a=>{rcases h with h|h<;>cases h}|store t a x=>{rcases h with h|h<;>cases h}|unOp o u x=>{cases o<;>rfl}|makeFunc fn first caps=>{cases fn<;>rfl}|call c=>{obtain ⟨d,args,e⟩:=c;(cases d with|builtin b=>{(cases b<;>first|rfl|(rcases h with h|h<;>cases h))}|_=>rfl)}|_=>rfl)
theorem Vi {bx bx' i x}(h:∀s∈x.ids,bx' s=bx s):lS bx i x=lS bx' i x:=by unfold lS;grind [SV.ids,C.ids]
def RZ {bx bx':Nat->Option aY}{i:TI}{x y:SV}(h:∀s∈x.ids,bx' s=bx s):ju bx i x y=ju bx' i x y:=by unfold ju;grind [SV.ids,C.ids]
def NU {bx:Nat->Option aY}{i:TI}{x y:SV}{sc:zA Prop}{s:Nat}{b:aY}(h:ju bx i x y=.Ao sc s b):s∈x.ids:=by unfold ju at h;grind [SV.ids,C.ids]
def PO {V:un}{p:Addr}:∀(cs:zA C) (i:Nat) {k:Prop},V.Yl p i cs k↔V.Yl p i cs True/\k
 | [],_,k=>by simp [Ó.Yl]
 | c::r,i,k=>by
  simp only [Ó.Yl];rw [PO r (i+1),and_assoc]
def Vm {V V':un}(h:V.Le V'){p:Addr}:∀(cs:zA C) (i:Nat) {k:Prop},V.Yl p i cs k->V'.Yl p i cs k
 | [],_,_,u=>u
 | c::r,i,_,u=>⟨h.at u.1,Vm h r (i+1) u.2⟩
def wF {V:un}{p:OA}{x:SV}{k:Prop}:V.Yk p x k↔V.Yk p x True/\k:=by (cases x with|agg cs=>{simp only [Ó.Yk];constructor;{rintro ⟨a,c,b⟩;rw [PO] at b;exact ⟨⟨a,c,b.1⟩,b.2⟩};grind}|_=>grind [Ó.Yk])
def rdV_le {V V':un}(h:V.Le V'){p:OA}{x:SV}{k:Prop}(u:V.Yk p x k):V'.Yk p x k:=by (cases x with|c c=>{obtain ⟨⟨a,b,d⟩,e⟩:=u;exact ⟨⟨a,b,h.at d⟩,e⟩}|agg cs=>{obtain ⟨a,b,d⟩:=u;exact ⟨a,b,Vm h _ _ d⟩}|xD xs=>exact u)
def Eb.split:∀(s:Eb) {F:C->Prop},s.ex F->∃x,F x/\∀G:C->Prop,G x->s.ex G
 | .int _,_,⟨_,h⟩=>⟨_,h,λ_ g=>⟨_,g⟩⟩
 | .bool,_,⟨_,h⟩=>⟨_,h,λ_ g=>⟨_,g⟩⟩
 | .slice,_,⟨_,_,_,h⟩=>⟨_,h,λ_ g=>⟨_,_,_,g⟩⟩
 | .ptr,_,⟨_,h⟩=>⟨_,h,λ_ g=>⟨_,g⟩⟩
 | .str,_,⟨_,h⟩=>⟨_,h,λ_ g=>⟨_,g⟩⟩
 | .any,_,⟨_,h⟩=>⟨_,h,λ_ g=>⟨_,g⟩⟩
def sW:∀(l:zA Eb) {F:zA C->Prop},exL l F->∃x,F x/\∀G:zA C->Prop,G x->exL l G
 | [],_,h=>⟨_,h,λ_ g=>g⟩
 | s::r,_,h=>by
  have ⟨c,u,y⟩:=Eb.split s h;have ⟨cs,a,b⟩:=sW r u;exact ⟨c::cs,a,λG g=>y _ (b _ g)⟩
def Bv.split:∀(s:Bv) {F:SV->Prop},s.ex F->∃x,F x/\∀G:SV->Prop,G x->s.ex G
 | .one s,_,h=>by have ⟨c,u,y⟩:=Eb.split s h;exact ⟨.c c,u,λG g=>y _ g⟩
 | .agg l,_,h=>by have ⟨c,u,y⟩:=sW l h;exact ⟨.agg c,u,λG g=>y _ g⟩
def yg:∀(l:zA Bv) {F:zA (ut×zA C)->Prop},exT l F->∃x,F x/\∀G:zA (ut×zA C)->Prop,G x->exT l G
 | [],_,h=>⟨_,h,λ_ g=>g⟩
 | .one s::r,_,h=>by
  have ⟨c,u,y⟩:=Eb.split s h;have ⟨cs,a,b⟩:=yg r u;exact ⟨_,a,λG g=>y _ (b _ g)⟩
 | .agg l::r,_,h=>by
  have ⟨c,u,y⟩:=sW l h;have ⟨cs,a,b⟩:=yg r u;exact ⟨_,a,λG g=>y _ (b _ g)⟩
def Sh.split:∀(s:Sh) {F:SV->Prop},s.ex F->∃x,F x/\∀G:SV->Prop,G x->s.ex G
 | .val s,_,h=>Bv.split s h
 | .xD l,_,h=>by have ⟨x,u,y⟩:=yg l h;exact ⟨_,u,λG g=>y _ g⟩
 | .none,_,h=>⟨_,h,λ_ g=>g⟩
def Sh.s {s:Sh}{F G:SV->Prop}(h:s.ex F)(k:∀x,F x->G x):s.ex G:=by have ⟨x,a,b⟩:=s.split h;exact b G (k x a)
def Dn {l m:zA Nat}:VN l m=true↔∀x∈l,x∈m:=by simp only [VN,Ħ,dS]
def CF {op:Op}{x:Operand}(h:x∈op.operands.toList){t:Nat}(e:x=.tmp t):t∈kh op:=by subst e;exact List.mem_filterMap.2 ⟨_,h,rfl⟩
def tz {st ik:St}{op:Op}(h:∀t∈kh op,ik.aA t=st.aA t){x:Operand}(u:x∈op.operands.toList):ik.bK x=st.bK x:=by (cases x with|tmp t=>exact h t (CF u rfl)|_=>rfl)
def CE {op:Op}{x:Operand}(h:x∈nh op):x∈op.operands.toList:=by unfold nh at h;grind [Op.operands,Call.operands]
def yC {ρ:Operand->Option SV}:∀{l:zA Operand} {xs:zA SV},cO ρ l=some xs->∀x∈l,∃v,ρ x=some v/\v∈xs
 | [],_,_,_,y=>nomatch y
 | o::r,xs,h,x,y=>by
  simp only [cO] at h;split at h
  ·rename_i v l z E;cases h;rcases ç.1 y with e|y
   ·exact ⟨v,by rw [e];exact z,ψ⟩
   ·have ⟨u,hu,hm⟩:=yC E x y;grind
  ·cases h
structure Ĵ (P:Program) (T:dW) (m:CM) (h:û) (o:Oper) (st:St) (V:Ó) (R W:List Nat) (K:St->Ó->Prop) (p:Nat->Option SV) (q:Nat->Option aY):Prop where
 pd:∀t,t∉fI o->p t=none
 qd:∀s,s∉W->q s=none
 next:K (ov p q st) V
 again:∀(ik:St)(V2:Ó)(K2:St->Ó->Prop),V.Le V2->(∀t∈kh o.op,ik.aA t=st.aA t)->(∀s∈R,ik.boxes s=st.boxes s)->K2 (ov p q ik) V2->dO P T m h o ik V2 K2
variable {P:Program} {T:dW} {LF RF:List Nat} {m:CM}
def HI {o:Oper}{t:Nat}(h:t∉fI o):o.dst≠some t:=by intro e;apply h;simp [fI,e]
def YM {o:Oper}{st:St}{V:un}{K:St->un->Prop}{R W:zA Nat}{F:Q}(hnew:∀sc b x,F=.new sc b x->fI o=W/\fI o=R)(hupd:∀sc s b,F=.Ao sc s b->s∈W)(happ:er F≠6)(E:Ap F o.dst st V K):∃p q,(∀t,t∉fI o->p t=none)/\(∀s,s∉W->q s=none)/\K (ov p q st) V/\∀(ik:St)(V2:un)(K2:St->un->Prop),V.Le V2->(∀s∈R,ik.boxes s=st.boxes s)->K2 (ov p q ik) V2->Ap F o.dst ik V2 K2:=by (cases F with|fail=>exact E.elim|ret sc x=>{obtain ⟨h,k⟩:=(fy sc _).1 E;refine ⟨one o.dst x,λ_=>none,λt l=>eU (HI l),λ_ _=>rfl,by rw [<-gJ];exact k,?_⟩;intro ik V2 K2 _ _ m;exact (fy sc _).2 ⟨h,by rw [gJ];exact m⟩}|new sc b x=>{have ⟨r,u⟩:=hnew _ _ _ rfl;simp only [Ap] at E ⊢;(cases M:o.dst with|none=>{rw [M] at E;exact E.elim}|some d=>{have n:fI o=[d]:=by{simp [fI,M]};rw [M] at E;dsimp only at E ⊢;split at E;{rename_i v;obtain ⟨h,k⟩:=(fy sc _).1 E;refine ⟨one (some d) (x d),one (some d) b,λt l=>eU (by intro e;apply l;rw [n];simpa using e.symm),λs w=>eU (by intro e;apply w;rw [<-r,n];simpa using e.symm),by rw [<-FL];exact k,?_⟩;intro ik V2 K2 _ y m;rw [y d (by rw [<-u,n];simp),v];exact (fy sc _).2 ⟨h,by rw [FL];exact m⟩};{exact E.elim}})}|Ao sc s b=>{simp only [Ap] at E ⊢;(cases M:o.dst with|some d=>{rw [M] at E;exact E.elim}|none=>grind [fy,eU,S4])}|rd a sh=>{have ⟨x,h,k⟩:=sh.split E;have ⟨z,A⟩:=wF.1 h;refine ⟨one o.dst x,λ_=>none,λt l=>eU (HI l),λ_ _=>rfl,by rw [<-gJ];exact A,?_⟩;intro ik V2 K2 hle _ m;exact k _ (wF.2 ⟨rdV_le hle z,by rw [gJ];exact m⟩)}|ug vs of size sh=>{have ⟨x,h,k⟩:=sh.split E;refine ⟨one o.dst x,λ_=>none,λt l=>eU (HI l),λ_ _=>rfl,by rw [<-gJ];exact h.2,?_⟩;intro ik V2 K2 hle _ m;exact k _ ⟨h.1,by rw [gJ];exact m⟩}|app a b c d e f g i j=>exact Å rfl happ|yy a b c d e f g i=>exact Å rfl happ)
def C7 {o:Oper}(h:rL (bG LF RF o.op)=true)(st:St)(V:un)(K:St->un->Prop):dV P T m o st V K=Ap (aT T st.bK st.boxes o.op) o.dst st V K:=by unfold dV;split;{rename_i f args b a;rw [a] at h;exfalso;(cases f with|func f=>{simp only [bG] at h;split at h;{split at h<;>cases h};{split at h;{cases h};{split at h<;>cases h}}}|_=>{cases h})};{rename_i recv name args b a;rw [a] at h;cases h};{rfl}
def vj {ρ:Operand->Option SV}{bx:Nat->Option aY}{op:Op}:er (aT T ρ bx op)=2->bG LF RF op=.alloc:=by
 have u:∀{q:Q} {X:Prop},er q<=1->er q=2->X:=by intro q X h y;omega
 unfold aT;split
 case h_8=>
  split
  ·intro h;rcases GY (bx:=bx) with y|y|y|y<;>(rw [y] at h;cases h)
  ·exact u (ã _)
 case h_9=>
  split
  ·intro h;rcases Dw (bx:=bx) with y|y<;>(rw [y] at h;cases h)
  ·exact u (ã _)
 case h_11=>
  split
  ·split;{split;{exact u wV};{exact u (ã _)}};{exact u wV}
  ·exact u (ã _)
 case h_17=>exact λ_=>rfl
 case h_18=>
  split
  ·split;{split;{exact u Dv};{exact u (ã _)}};{exact u (ã _)}
  ·exact u (ã _)
 case h_21=>
  split
  ·exact u rY
  ·exact u (ã _)
 case h_23 c=>
  split
  ·intro h;exfalso;split at h<;>(try split at h)<;>(try split at h)<;>(try split at h)<;>first|(rcases rX (bx:=bx) with y|y<;>(rw [y] at h;cases h))|cases h
  ·split;{intro h;rcases Du (T:=T) (bx:=bx) with y|y<;>(rw [y] at h;cases h)};{exact u (ã _)}
  ·split;{split;{exact u wW};{exact u (ã _)}};{exact u (ã _)}
  ·exact u (ã _)
 all_goals
  first
  | exact λ_=>rfl
  | exact u (ã _)
  | ((repeat' split)<;>first|exact u (ã _)|exact u (Ù _)|exact u ui|(unfold C5;(repeat' split)<;>first|exact u (ã _)|exact u (Ù _)))
def Gl {st ik:St}{op:Op}(h:∀t∈kh op,ik.aA t=st.aA t):cO ik.bK (nh op)=cO st.bK (nh op):=
 fN _ λ_ a=>tz h (CE a)
def tC {h:û}{o:Oper}{st:St}{V:un}{K:St->un->Prop}{R W:zA Nat}(hq:rL (bG LF RF o.op)=true)(hrw:wO (bG LF RF o.op) h (fI o)=some (R,W))(hv:dO P T m h o st V K):∃p q,Ĵ P T m h o st V R W K p q:=by
 have core:(∀ik:St,(∀t∈kh o.op,ik.aA t=st.aA t)->(∀s∈R,ik.boxes s=st.boxes s)->aT T ik.bK ik.boxes o.op=aT T st.bK st.boxes o.op) ->
   (∀B b x,aT T st.bK st.boxes o.op=.new B b x->fI o=W/\fI o=R)->(∀B s b,aT T st.bK st.boxes o.op=.Ao B s b->s∈W) ->
   (∀(ik:St)(V2:un)(C:St->un->Prop),(∀t∈kh o.op,ik.aA t=st.aA t)->dV P T m o ik V2 C->dO P T m h o ik V2 C) ->
   dV P T m o st V K->∃p q,Ĵ P T m h o st V R W K p q:=by
  intro he O hu A hv;rw [C7 hq] at hv
  obtain ⟨p,q,Q,S,U,X⟩:=YM (R:=R) (W:=W) O hu (λk=>by
   obtain ⟨Y,d,D⟩:=(iC (T:=T) (ρ:=st.bK) (bx:=st.boxes) (op:=o.op)).2.2 k;rw [d] at hq;obtain ⟨E,args,I⟩:=Y;dsimp only at D;subst D;cases hq) hv
  refine ⟨p,q,Q,S,U,λik V2 C hle F G Z=>?_⟩;refine A ik V2 C F ?_;rw [C7 hq,he ik F G];exact X ik V2 C hle G Z
 have J:bG LF RF o.op=.pure\/bG LF RF o.op=.alloc->h=.free->(bG LF RF o.op=.alloc->R=fI o/\W=fI o)->∃p q,Ĵ P T m h o st V R W K p q:=by intro g hf hd;subst hf;refine core (λik r _=>?_) (λB b x k=>?_) (λB s b k=>?_) (λ_ _ _ _ A=>A) hv;{rw [Vg (bx':=st.boxes) g];exact rK λx H=>tz r H};{have:=hd (vj (by rw [k];rfl));exact ⟨this.2.symm,this.1.symm⟩};{rcases (iC (T:=T) (ρ:=st.bK) (bx:=st.boxes) (op:=o.op)).1 (by rw [k];rfl) with ⟨t,y,x,d⟩|⟨⟨E,args,I⟩,d,D⟩;{rw [d] at g;rcases g with g|g<;>cases g};{dsimp only at D;subst D;rw [d] at g;rcases g with g|g<;>cases g}}
 generalize g:bG LF RF o.op=c at hrw hq J
 cases c with
 | pure=>
  cases h with
  | free=>exact J (.inl rfl) rfl Ū
  | own l=>cases hrw
 | alloc=>
  cases h with
  | free=>
   simp only [wO,ā,Ő] at hrw;exact J (.inr rfl) rfl (λ_=>⟨hrw.1.symm,hrw.2.symm⟩)
  | own l=>cases hrw
 | load=>
  cases h with
  | free=>cases hrw
  | own l=>
   simp only [wO,ā,Ő] at hrw;obtain ⟨rfl,rfl⟩:=hrw
   have d:∃t a,o.op=.load t a:=by
    generalize o.op=op at g
    cases op with
    | load t a=>exact ⟨t,a,rfl⟩
    | call c=>obtain ⟨E,args,I⟩:=c;cases E with
     | builtin b=>cases b<;>cases g
     | value f=>cases f with
      | func f=>simp only [bG] at g;split at g<;>(try split at g)<;>(try split at g)<;>(try split at g)<;>cases g
      | _=>cases g
     | _=>cases g
    | _=>cases g
   obtain ⟨t,a,d⟩:=d;unfold dO at hv;dsimp only at hv;split at hv
   ·rename_i xs n;split at hv;{rename_i j;have L:∀v,st.bK a=some v->∀s∈v.ids,s∈l:=by{intro v yk s r;rw [Dn] at j;apply j;rw [d] at n;have ⟨u,hu,hm⟩:=yC n a (by simp [nh]);rw [d];simp only [gW];grind};refine core (λik r A=>?_) (λB b x k=>?_) (λB s b k=>?_) (λik V2 C r A=>?_) hv;{rw [d] at r ⊢;rw [rK (ρ':=st.bK) λx H=>tz r H];simp only [aT];grind [Vi]};{have:=vj (LF:=LF) (RF:=RF) (op:=o.op) (T:=T) (ρ:=st.bK) (bx:=st.boxes) (by rw [k];rfl);rw [d] at this;cases this};{rcases (iC (T:=T) (ρ:=st.bK) (bx:=st.boxes) (op:=o.op)).1 (by rw [k];rfl) with ⟨t,y,x,z⟩|⟨c,z,-⟩<;>(rw [d] at z;cases z)};{unfold dO;dsimp only;rw [Gl r,n];dsimp only;have:gW ik.boxes o.op (xs.flatMap SV.ids)=gW st.boxes o.op (xs.flatMap SV.ids):=by{rw [d];rfl};rw [this,j];exact A}};{exact hv.elim}
   ·exact hv.elim
 | store=>
  cases h with
  | free=>cases hrw
  | own l=>
   simp only [wO,ā,Ő] at hrw;obtain ⟨rfl,rfl⟩:=hrw
   have d:∃t a x,o.op=.store t a x:=by
    generalize o.op=op at g
    cases op with
    | store t a x=>exact ⟨t,a,x,rfl⟩
    | call c=>obtain ⟨E,args,I⟩:=c;cases E with
     | builtin b=>cases b<;>cases g
     | value f=>cases f with
      | func f=>simp only [bG] at g;split at g<;>(try split at g)<;>(try split at g)<;>(try split at g)<;>cases g
      | _=>cases g
     | _=>cases g
    | _=>cases g
   obtain ⟨t,a,y,d⟩:=d;unfold dO at hv;dsimp only at hv;split at hv
   ·rename_i xs n;split at hv;{rename_i j;have L:∀v,st.bK a=some v->∀s∈v.ids,s∈l:=by{intro v yk s r;rw [Dn] at j;apply j;rw [d] at n;have ⟨u,hu,hm⟩:=yC n a (by simp [nh]);rw [d];simp only [gW];grind};refine core (λik r A=>?_) (λB b x k=>?_) (λB s b k=>?_) (λik V2 C r A=>?_) hv;{rw [d] at r ⊢;rw [rK (ρ':=st.bK) λx H=>tz r H];simp only [aT];split;{rename_i i v w hi M hw;exact (RZ λs N=>A s (L v M s N)).symm};{rfl}};{have:=vj (LF:=LF) (RF:=RF) (op:=o.op) (T:=T) (ρ:=st.bK) (bx:=st.boxes) (by rw [k];rfl);rw [d] at this;cases this};{rw [d] at k;simp only [aT] at k;split at k;{rename_i i v w hi M hw;exact L v M s (NU k)};{cases k}};{unfold dO;dsimp only;rw [Gl r,n];dsimp only;have:gW ik.boxes o.op (xs.flatMap SV.ids)=gW st.boxes o.op (xs.flatMap SV.ids):=by{rw [d];rfl};rw [this,j];exact A}};{exact hv.elim}
   ·exact hv.elim
 | _=>cases hq
end
section
variable {P:Program} {T:dW} {LF RF:List Nat} {m:CM}
def Ũ (p:Nat->Option SV)(q:Nat->Option aY)(W D:List Nat)(st:St)(V:Ó)(K:St->Ó->Prop):St->Ó->Prop:=
 λik V2=>V.Le V2/\(∀t,t∉D->ik.aA t=st.aA t)/\(∀s,s∉W->ik.boxes s=st.boxes s)/\K (ov p q ik) V2
def vD {bx bx':Nat->Option aY}:∀{l:zA Nat},(∀s∈l,bx' s=bx s)->l.flatMap (oW bx')=l.flatMap (oW bx)
 | [],_=>rfl
 | s::r,h=>by
  simp only [Ė];rw [vD λs u=>h s (by simp [u])];simp only [oW];rw [h s ψ]
def rM {bx bx':Nat->Option aY}:∀(n:Nat)(l:zA Nat),(∀s∈ð bx n l,bx' s=bx s)->ð bx' n l=ð bx n l
 | 0,_,_=>rfl
 | n+1,l,h=>by
  have u:∀s∈l,bx' s=bx s:=λs a=>h s (gg (n+1) l s a);simp only [ð] at h ⊢;rw [vD u];exact rM n _ h
def EA {bx bx':Nat->Option aY}{l:zA Nat}(h:∀s∈l,bx' s=bx s):jG bx' l=jG bx l:=by unfold jG;rw [ļ,Ħ,Ħ];constructor;{intro g s a;have:=g s a;simp only [oW] at this ⊢;rw [h s a] at this;exact this};{intro g s a;have:=g s a;simp only [oW] at this ⊢;rw [h s a];exact this}
def eX:∀{L:zA Nat} {β:Nat->Nat} {k k':(Nat->Nat)->Prop},(∀β,k β->k' β)->nN L β k->nN L β k'
 | [],_,_,_,h,g=>h _ g
 | _::_,_,_,_,h,g=>λb=>eX h (g b)
def CL {bx bx':Nat->Option aY}{b:aY}{β:Nat->Nat}{s:Nat}:∀{r:zA Nat} {k k':Prop},(∀t∈r,bx' t=bx t)->(k->k')->ZK bx b β s r k->ZK bx' b β s r k'
 | [],_,_,_,h,g=>h g
 | t::r,k,k',u,h,g=>by
  have y:=λt a=>u t (ø _ a);simp only [ZK] at g ⊢;rw [u t ψ]
  cases hbq:Nat.beq s t with
  | true=>rw [hbq] at g;exact CL y h g
  | false=>
   rw [hbq] at g;simp only [cond_false] at g ⊢;split at g
   ·exact λc=>CL y h (g c)
   ·exact g
def lL {bx bx':Nat->Option aY}{β:Nat->Nat}{V:un}:∀{L:zA Nat} {k k':Prop},(∀s∈L,bx' s=bx s)->((∀s∈L,∃b,bx s=some b/\(b.live->V.H (β s)))->k->k')->kq bx β V L k->kq bx' β V L k'
 | [],_,_,_,h,g=>h (λs z=>Å z ψ) g
 | s::r,k,k',u,h,g=>by
  have y:=λt a=>u t (ø _ a);simp only [kq] at g ⊢;rw [u s ψ];split at g
  ·rename_i b c;refine λd e=>lL y (λi=>CL y (λf=>h (λt a=>?_) f)) (g d e)<;>grind [kK.1]
  ·exact g
def mK {y:Option (Nat×Nat)}:∀{cs E:zA C} {K u:zA C->Prop},(∀c,K c->u c)->pJ y cs E K->pJ y cs E u
 | [],_,_,_,h,g=>h _ g
 | _::_,[],_,_,_,g=>g.elim
 | c::r,z::zr,K,u,h,g=>by
  simp only [pJ] at g ⊢;split at g
  ·split at g
   ·split at g
    ·obtain ⟨n,c,g⟩:=g;exact ⟨n,c,mK (λcs a=>h _ a) g⟩
    ·exact g.elim
   ·exact g.elim
  ·split at g
   ·have ⟨v,b,d⟩:=Eb.split _ g;rename_i e;rw [e] at *;exact d _ (mK (λcs a=>h _ a) b)
   ·exact mK (λcs a=>h _ a) g
variable {p:Nat->Option SV} {q:Nat->Option aY}
def mM {z:Option (Nat×Nat)}{β:Nat->Nat}{V:un}{W:zA Nat}:∀{L:zA Nat} {st:St} {k k':St->Prop},(∀s∈L,q s=none/\s∈W) ->(∀y,(∀t,y.aA t=st.aA t)->(∀s,s∉W->y.boxes s=st.boxes s)->k (ov p q y)->k' y)->fL T z β V L (ov p q st) k->fL T z β V L st k'
 | [],st,k,k',_,h,g=>h st (λ_=>rfl) (λ_ _=>rfl) g
 | s::r,st,k,k',E,h,g=>by
  have ⟨hqs,hsW⟩:=E s ψ;have f:∀s∈r,q s=none/\s∈W:=λs j=>E s (by simp [j])
  have a:∀b:aY,∀d:St->Prop,(∀y,d y=k y)->fL T z β V r ((ov p q st).box s b) d->fL T z β V r (st.box s b) k':=by
   intro b d e g;rw [pS hqs] at g;refine mM f (λy l o c=>h y l (λu m=>?_) (by rw [<-e];exact c)) g<;>grind [ao]
  simp only [fL] at g ⊢;rw [cI hqs] at g;split at g
  ·rename_i cs ty v;split at g;{rename_i i w;exact mK (λn c=>⟨c.1,a _ _ (λ_=>rfl) c.2⟩) g};{exact g}
  ·grind
  ·grind
  ·exact g
def Bh (V:un)(l:zA Nat):V.Le (V.aw l):=λ_ _ h=>h
def Pq (V:un):V.Le V.shut:=λ_ _ h=>h
def rC {V V' u:un}{P:Prop}{b:Nat}(h:V.Le u)(y:V.Le V')(z:P->V'.w.heap.size<=b\/V'.H b):V.Le (u.shut.bf P b):=by intro x o c;have ⟨d,f⟩:=h x o c;have ⟨g,i⟩:=y x o c;refine ⟨λa=>?_,f⟩;rcases a with a|⟨j,e,-⟩;{exact d a};grind
def UI {m:Option Nat}{d:Nat}:gR m d=d\/gR m d=d+200000:=by (cases m with|none=>exact .inl rfl|some m=>{simp only [gR,ue];grind})
def pO {give:ut}{sh:Sh}{L:zA Nat}{M:Option Nat}{d:Nat}{ety:TypeId}{β:Nat->Nat}{st:St}{V V' N:un}{K K':St->un->Prop}{W D:zA Nat}{r':um}(O:∀s∈L,q s=none/\s∈W)(hm:∀k,M=some k->k∈L)(hp:p d=none/\d∈D)(hq:q (gR M d)=none/\gR M d∈W)(hV:V.Le V')(Z:V.Le N)(hlv:∀s∈L,∃b,st.boxes s=some b/\(b.live->V'.H (β s)))(hK:∀s2 V2,Ũ p q W D st V K s2 V2->K' s2 V2)(h:cG T give sh L M d ety β (ov p q st) V' K r' N):cG T give sh L M d ety β st V' K' r' N:=by unfold cG at h ⊢;obtain ⟨g,a,u,v,y⟩:=h;have i:a≠[]->V'.w.heap.size<=g\/D9 M st β g:=by{intro c;refine (v c).imp id λh=>?_;unfold D9 at h ⊢;grind [cI]};have z:a≠[]->V'.w.heap.size<=g\/V'.H g:=by{intro c;refine (i c).imp id λh=>?_;unfold D9 at h;(cases M with|none=>exact h.elim|some k=>{dsimp only at h;have ⟨A,n,B⟩:=hlv k (hm k rfl);rw [n] at h;obtain ⟨cs,ty⟩:=A;cases cs<;>grind [dI,dJ,f_]})};refine ⟨g,a,u,i,Sh.s y λx r=>⟨r.1,?_⟩⟩;have C:(v_ M ety (ov p q st)).box (gR M d) ⟨.aG a,ety⟩=ov p q ((v_ M ety st).box (gR M d) ⟨.aG a,ety⟩):=by{(cases M with|none=>exact pS hq.1|some k=>{simp only [v_];grind [pS]})};have j:=r.2;rw [C] at j;have l:∀s∈KG M L,q s=none/\s∈W:=by{intro s f;(cases M with|none=>exact O s f|some k=>exact O s (CG.1 f).1)};refine mM l (λo E F m=>?_) j;rw [lP (λk m=>by cases m;exact hp.1)] at m;refine hK _ _ ⟨rC Z hV z,?_,?_,m⟩;{intro t G;rw [eF,Ã (λe=>G (by rw [e];exact hp.2)),E];cases M<;>rfl};{intro s f;show o.boxes s=_;rw [F s f,ao,Ã (λe=>f (by rw [e];exact hq.2))];(cases M with|none=>rfl|some k=>{simp only [v_];rw [ao,Ã (λe=>f (by rw [e];exact (O k (hm k rfl)).2))]})}
theorem UB {bx L}(hcl:jG bx L=true):∀k,k∈wB bx L->k∈L:=by
 intro k a;unfold wB at a;have ⟨s,b,a⟩:=ċ.1 (cA.1 a);split at a
 ·rename_i cs ty d;refine fH hcl b d k ?_
  have:∀cs:zA C,k∈uX cs->k∈cs.flatMap C.ids:=by
   intro cs
   induction cs with
   | nil=>exact λh=>nomatch h
   | cons c r u=>
    intro h;rw [Ė,ú]
    cases c<;>simp only [uX,ç] at h<;>first
     | exact .inr (u h)
     | (rcases h with h|h
        ·left;simp [C.ids,h]
        ·exact .inr (u h))
  exact this cs a
 ·cases a
theorem Ch {xs}:∀k,k∈pL xs->k∈xs.flatMap SV.ids:=by
 intro k
 induction xs with
 | nil=>exact λh=>nomatch h
 | cons x r u=>
  intro h;rw [Ė,ú];unfold pL at h;split at h
  ·rename_i heq;cases heq
  ·rename_i s n c a heq;cases heq;exact .inl h
  ·rename_i s n c a heq;cases heq;exact .inl h
  grind
def zH {bx bx':Nat->Option aY}{L:zA Nat}(h:∀s∈L,bx' s=bx s):wB bx' L=wB bx L:=by
 unfold wB;congr 1
 induction L<;>grind
def iN {st:St}{u:Option Nat}{d:Nat}(h:q (gR u d)=none):lN (ov p q st) u d=lN st u d:=by unfold lN;rw [cI h]
def zD {bx bx':Nat->Option aY}{β:Nat->Nat}{N:Nat}{L:zA Nat}(h:∀s∈L,bx' s=bx s):L.map (eJ bx' β N)=L.map (eJ bx β N):=
 Ŗ λs a=>by unfold eJ;rw [h s a]
def D8:∀{L:zA Nat} {st:St},(∀s∈L,q s=none)->ef (ov p q st) L 0=ov p q (ef st L 0)
 | [],_,_=>rfl
 | s::r,st,h=>by
  show ef ((ov p q st).box s ⟨.aG [],0⟩) r 0=ov p q (ef (st.box s ⟨.aG [],0⟩) r 0);rw [pS (h s ψ)];exact D8 λs u=>h s (by simp [u])
def yF {bx bx':Nat->Option aY}{β:Nat->Nat}{V:un}:∀{L:zA Nat} {k k':Prop},(∀s∈L,bx' s=bx s)->(k->k')->uZ bx β V L k->uZ bx' β V L k'
 | [],_,_,_,h,g=>h g
 | s::r,k,k',u,h,g=>by
  simp only [uZ] at g ⊢;rw [u s ψ];split at g
  ·exact λy=>yF (λt z=>u t (ø _ z)) h (g y)
  ·exact g.elim
def kP {f:FuncId}{xs:zA SV}{ty:TypeId}{dst:Option Nat}{st:St}{V:un}{K:St->un->Prop}{W D:zA Nat}(hm:m=.none\/((m=.aw\/m=.give)/\(∀s∈ð (ov p q st).boxes 3 (ó (xs.flatMap SV.ids)),q s=none/\s∈W)/\∀k,dst=some k->∀mm,q (gR mm k)=none/\gR mm k∈W))(hd:∀k,dst=some k->p k=none/\k∈D){K':St->un->Prop}(hK:∀s2 V2,Ũ p q W D st V K s2 V2->K' s2 V2)(hv:gY P T m f xs ty dst (ov p q st) V K):gY P T m f xs ty dst st V K':=by
 have A:∀(n:St)(x:SV),(∀t,n.aA t=st.aA t)->∀t,t∉D->(n.put dst x).aA t=st.aA t:=by intro n x h t c;(cases dst with|none=>exact h t|some d=>{rw [eF,Ã (λe=>c (by rw [e];exact (hd d rfl).2))];exact h t})
 have G:∀(n:St)(x:SV),(n.put dst x).boxes=n.boxes:=by intro n x;cases dst<;>rfl
 unfold gY at hv ⊢;split at hv
 ·exact hv.elim
 ·rename_i S a2
  have H:∀L,ð (ov p q st).boxes 3 (ó (xs.flatMap SV.ids))=L->(∀s∈L,q s=none)->ð st.boxes 3 (ó (xs.flatMap SV.ids))=L:=by intro L hL X;rw [<-hL];exact rM 3 _ λs y=>(cI (X s (by rw [<-hL];exact y))).symm
  have Zs:∀s∈xs.flatMap SV.ids,s∈ð (ov p q st).boxes 3 (ó (xs.flatMap SV.ids)):=λs y=>gg 3 _ s (cA.2 y);generalize hr:ð (ov p q st).boxes 3 (ó (xs.flatMap SV.ids))=L at hv hm Zs
  cases L with
  | nil=>
   rw [H _ hr (λs y=>nomatch y)]
   have plain:(∀g:un,V.Le g->ae P f (aI (λ_=>0) xs) g λr B=>S.ex λx=>r=x.den (λ_=>0)/\K ((ov p q st).put dst x) B) ->
     ∀g:un,V.Le g->ae P f (aI (λ_=>0) xs) g λr B=>S.ex λx=>r=x.den (λ_=>0)/\K' (st.put dst x) B:=by
    intro hv g b;refine (hv g b).s λr B hle l=>Sh.s l λx C=>⟨C.1,?_⟩;have z:=C.2;rw [lP (λk l=>(hd k l).1)] at z;exact hK _ _ ⟨b.m hle,A st x λ_=>rfl,λs _=>by rw [G],z⟩
   rcases hm with rfl|⟨rfl|rfl,-,i⟩
   ·exact plain hv
   ·exact plain hv
   ·dsimp only at hv ⊢;split at hv;{rename_i d o a3;rw [iN (i d rfl Option.none).1] at hv;split at hv;{exact hv.elim};{rename_i u;intro g b;refine (hv g b).s λr B hle l=>?_;exact pO (W:=W) (D:=D) (λs y=>Å y ψ) (λk l=>by cases l) (hd d rfl) (i d rfl Option.none) b (b.m hle) (λs y=>Å y ψ) hK l}};{exact plain hv};{exact hv.elim}
  | cons s r=>
   dsimp only at hv;split at hv
   ·exact hv.elim
   ·rename_i J
    have aw:m=.aw\/m=.give->(∀t∈s::r,q t=none/\t∈W)->(∀k,dst=some k->∀mm,q (gR mm k)=none/\gR mm k∈W) ->
      ∀{give:ut} {mm:Option Nat} {d:Nat} {o:TypeId},dst=some d->(∀k,mm=some k->k∈s::r) ->
      (∀g:un,V.Le g->nN (s::r) (λ_=>0) λβ=>kq (ov p q st).boxes β g (s::r) (ae P f (aI β xs) (g.aw ((s::r).map (eJ (ov p q st).boxes β g.w.heap.size))) (cG T give S (s::r) mm d o β (ov p q st) g K))) ->
      ∀g:un,V.Le g->nN (s::r) (λ_=>0) λβ=>kq st.boxes β g (s::r) (ae P f (aI β xs) (g.aw ((s::r).map (eJ st.boxes β g.w.heap.size))) (cG T give S (s::r) mm d o β st g K')):=by
     intro _ a i give mm d o E M hv g b;have F:∀t∈s::r,st.boxes t=(ov p q st).boxes t:=λt c=>(cI (a t c).1).symm;refine eX (λβ I=>?_) (hv g b);rw [zD (bx:=(ov p q st).boxes) F];refine lL (bx:=(ov p q st).boxes) F (λhH v=>?_) I;refine v.s λY B hle l=>?_;exact pO a M (hd d E) (i d E mm) b ((b.m (Bh g _)).m hle) (λt c=>by rw [F t c];exact hH t c) hK l
    have base:m=.aw\/m=.give->(∀t∈s::r,q t=none/\t∈W)/\(∀k,dst=some k->∀mm,q (gR mm k)=none/\gR mm k∈W):=by intro h;rcases hm with rfl|⟨-,N,z⟩;{rcases h with h|h<;>cases h};{exact ⟨N,z⟩}
    have O:(∀t∈s::r,q t=none/\t∈W)->jG st.boxes (s::r)=true:=λa=>by rw [EA (bx:=(ov p q st).boxes) (λt c=>(cI (a t c).1).symm)];exact J
    split at hv
    ·exact hv.elim
    ·exact hv.elim
    ·have ⟨a,i⟩:=base (.inr rfl);rw [H _ hr (λt c=>(a t c).1)];dsimp only;rw [O a];dsimp only;have Z:=zH (bx:=(ov p q st).boxes) (bx':=st.boxes) (L:=s::r) (λt c=>(cI (a t c).1).symm);rw [Z];split at hv;{rename_i d o N z h3;rw [iN (i d rfl _).1] at hv;split at hv;{exact hv.elim};{rename_i u;exact aw (.inr rfl) a i rfl (λk l=>by cases l) hv}};{rename_i d o k N z h3;have Q:=Zs k (Ch k (by rw [z];simp));have a0:IA (ov p q st).boxes k o=IA st.boxes k o:=by{unfold IA;rw [cI (a k Q).1]};rw [a0] at hv;split at hv;{rw [iN (i d rfl _).1] at hv;split at hv;{exact hv.elim};{rename_i u;exact aw (.inr rfl) a i rfl (λj hj=>by cases hj;exact Q) hv}};{rw [D8 (λt c=>(a t c).1),iN (i d rfl _).1] at hv;split at hv;{exact hv.elim};{rename_i u;split at hv;{exact hv.elim};{intro g b;refine eX (λβ I=>?_) (hv g b);refine yF (bx:=(ov p q st).boxes) (λt c=>(cI (a t c).1).symm) (λv=>?_) I;refine v.s λY B hle l=>?_;exact pO (W:=W) (D:=D) (st:=ef st (s::r) 0) (λs y=>Å y ψ) (λk l=>by cases l) (hd d rfl) (i d rfl Option.none) b (b.m hle) (λs y=>Å y ψ) (λs2 V2 U=>hK s2 V2 ⟨U.1,λt c=>(U.2.1 t c).m (by rw [jY]),λt c=>(U.2.2.1 t c).m (by rw [br,Ã λh=>c (a t h).2]),U.2.2.2⟩) l}}}};{split at hv;{exact hv.elim};{rw [D8 (λt c=>(a t c).1)] at hv;intro g b;refine eX (λβ I=>?_) (hv g b);refine yF (bx:=(ov p q st).boxes) (λt c=>(cI (a t c).1).symm) (λv=>?_) I;refine v.s λY B hle l=>Sh.s l λx C=>⟨C.1,?_⟩;have z:=C.2;rw [lP (λk l=>(hd k l).1)] at z;exact hK _ _ ⟨b.m hle,A (ef st (s::r) 0) x λt=>by rw [jY],λt c=>by rw [G,br,Ã λh=>c (a t h).2],z⟩}};{exact hv.elim}
    ·have ⟨a,i⟩:=base (.inl rfl);rw [H _ hr (λt c=>(a t c).1)];dsimp only;rw [O a];dsimp only;have F:∀t∈s::r,st.boxes t=(ov p q st).boxes t:=λt c=>(cI (a t c).1).symm;rw [(zH (bx:=(ov p q st).boxes) (bx':=st.boxes) (L:=s::r) F)];split at hv;{intro g b;refine eX (λβ I=>?_) (hv g b);rw [zD (bx:=(ov p q st).boxes) F];refine lL (bx:=(ov p q st).boxes) F (λ_ v=>?_) I;refine v.s λY B hle l=>Sh.s l λx C=>⟨C.1,?_⟩;refine mM a (λn N z l=>?_) C.2;rw [lP (λk l=>(hd k l).1)] at l;exact hK _ _ ⟨((b.m (Bh g _)).m hle).m (Pq _),A n x N,λt c=>by rw [G];exact z t c,l⟩};{rename_i k l;have R:=UB J k (by rw [l];simp);have a1:nQ st.boxes k=nQ (ov p q st).boxes k:=by{unfold nQ;rw [F k R]};rw [a1];split at hv;{rename_i d o a4;rw [iN (i d rfl _).1] at hv;split at hv;{exact hv.elim};{rename_i u;exact aw (.inl rfl) a i rfl (λj hj=>by cases hj;exact R) hv}};{exact hv.elim}};{exact hv.elim}
    grind
def K9 {bx:Nat->Option aY}:∀(n:Nat) {l l':zA Nat},(∀x∈l,x∈l')->∀x∈ð bx n l,x∈ð bx n l'
 | 0,_,_,h,x,u=>h x u
 | n+1,l,l',h,x,u=>by
  simp only [ð] at u ⊢;refine K9 n (λy z=>?_) x u<;>grind [cA]
def su {f:FuncId}{xs:zA SV}{ty:TypeId}{dst:Option Nat}{st:St}{V:un}{K:St->un->Prop}{W D:zA Nat}(hm:m=.none\/((m=.aw\/m=.give)/\(∀s∈ð (ov p q st).boxes 3 (ó (xs.flatMap SV.ids)),q s=none/\s∈W)/\∀k,dst=some k->∀y,q (gR y k)=none/\gR y k∈W))(z:∀k,dst=some k->p k=none/\k∈D){F:St->un->Prop}(E:∀s2 V2,Ũ p q W D st V K s2 V2->F s2 V2)(u:mc P T m f xs ty dst (ov p q st) V K):mc P T m f xs ty dst st V F:=by have a:=hm;(cases m with|aw=>{obtain ⟨d,g⟩:(∀s∈ð (ov p q st).boxes 3 (ó (xs.flatMap SV.ids)),q s=none/\s∈W)/\∀k,dst=some k->∀y,q (gR y k)=none/\gR y k∈W:=χ;unfold mc at u ⊢;dsimp only at u ⊢;rw [wU (bx:=st.boxes) (bx':=(ov p q st).boxes) (λs b=>cI (d s (gg 3 _ s (cA.2 b))).1)] at u;split at u;{rename_i j c h e;exact ⟨λhe=>⟨(u.1 he).1,kP (.inr ⟨.inl rfl,λs b=>d s (K9 3 (λx i=>cA.2 (Dm e x (cA.1 i))) s b),g⟩) z E (u.1 he).2⟩,λhe=>kP a z E (u.2 he)⟩};{exact kP a z E u}}|_=>exact kP a z E u)
theorem Ie {u y st}(z:∀t,p t=none\/u t=none)(E:∀t,q t=none\/y t=none):ov p q (ov u y st)=ov u y (ov p q st):=by unfold ov;grind
def G_:Q->Option Nat
 | .app old _ _ _ _ _ _ _ _=>old
 | .yy s _ _ _ _ _ _ _=>some s
 | _=>none
def PK (T:dW)(bx:Nat->Option aY)(l:Option (List SV))(ts:List TypeId):Q:=
 match l,ts with
 | some [b,x],[t,t']=>match aH T t,aH T t' with
  | some i,some u=>match i.k,u.k with
   | .slice e,.slice _=>match aH T e with
    | some y=>cY bx e y b x
    | none=>.fail
   | _,_=>.fail
  | _,_=>.fail
 | _,_=>.fail
def Ha (bx:Nat->Option aY)(sz:Nat)(x:SV):Option (OA×Nat ⊕ List Value):=
 match x with
 | .c (.v (.slice a k _))=>some (.inl (a,k))
 | .c (.mS s o k _)=>match bx s with
  | some ⟨.row ws,_⟩=>some (.inr (aL ws o (k*sz)))
  | _=>match fS bx s with
   | some ws=>if Nat.ble (o+k*sz) ws.length then some (.inr ((ws.drop o).take (k*sz))) else none
   | none=>none
 | .c (.d_ s k c)=>match bx s with
  | some ⟨.aG ws,_⟩=>some (.inr (rR ws k c sz))
  | _=>none
 | _=>none
def OT (bx:Nat->Option aY)(e:TypeId)(u:TI)(b:SV)(src:OA×Nat ⊕ List Value):Q:=
 match b with
 | .c (.v (.slice a n c))=>.app none a [] n c src u.size u.bytes e
 | .c (.mS s 0 n c)=>match fS bx s,nQ bx s with
  | some vs,some ty=>if Nat.beq ty e then .app (some s) none vs n c src u.size u.bytes e else .fail
  | _,_=>.fail
 | .c (.d_ s n c)=>match bx s with
  | some ⟨.aG vs,ty⟩=>if Nat.beq ty e then .yy s vs n c src u.size u.bytes e else .fail
  | _=>.fail
 | _=>.fail
def C0 {bx:Nat->Option aY}{e:TypeId}{u:TI}{b x:SV}:cY bx e u b x=match mT u.zero with
  | none=>.fail
  | some y=>if Nat.beq u.bytes 0||Nat.beq u.size 0||!(Nat.beq u.size y.length) then .fail else match Ha bx u.size x with
   | none=>.fail
   | some src=>OT bx e u b src:=rfl
def Qq {bx bx':Nat->Option aY}{sz:Nat}{x:SV}:(∀s∈x.ids,bx' s=bx s)->Ha bx sz x=Ha bx' sz x:=by unfold Ha;split;{exact λ_=>rfl};{intro h;unfold fS;rw [h _ (by simp [SV.ids,C.ids])]};{intro h;rw [h _ (by simp [SV.ids,C.ids])]};{exact λ_=>rfl}
theorem SI {bx bx' e u b src}:(∀s∈b.ids,bx' s=bx s)->OT bx e u b src=OT bx' e u b src:=by unfold OT;split;{exact λ_=>rfl};{intro h;unfold fS nQ;rw [h _ (by simp [SV.ids,C.ids])]};{intro h;rw [h _ (by simp [SV.ids,C.ids])]};{exact λ_=>rfl}
def NM {bx bx':Nat->Option aY}{e:TypeId}{u:TI}{b x:SV}(h:∀s∈b.ids++x.ids,bx' s=bx s):cY bx e u b x=cY bx' e u b x:=by rw [C0,C0,Qq λs a=>h s (Ĺ _ a)];grind [SI]
def K1 {bx:Nat->Option aY}{e:TypeId}{u:TI}{b x:SV}:∀s,G_ (cY bx e u b x)=some s->s∈b.ids:=by intro s h;unfold cY at h;split at h;{cases h};{split at h;{cases h};{dsimp only at h;split at h;{cases h};{split at h;{cases h};{split at h;{split at h;{cases h;simp [SV.ids,C.ids]};{cases h}};{cases h}};{split at h;{split at h;{cases h;simp [SV.ids,C.ids]};{cases h}};{cases h}};{cases h}}}}
def Yh {bx bx':Nat->Option aY}{ys:zA SV}{ts:zA TypeId}{R:zA Nat}(h:∀s∈ys.flatMap SV.ids,bx' s=bx s)(u:∀s∈ys.flatMap SV.ids,s∈R):PK T bx (some ys) ts=PK T bx' (some ys) ts/\∀s,G_ (PK T bx (some ys) ts)=some s->s∈R:=by unfold PK;split;{rename_i b x t d c;cases c;split;{split;{split;{exact ⟨NM λs a=>h s (by simpa using a),λs a=>u s (by simp [K1 s a])⟩};{exact ⟨rfl,λs a=>nomatch a⟩}};{exact ⟨rfl,λs a=>nomatch a⟩}};{exact ⟨rfl,λs a=>nomatch a⟩}};{exact ⟨rfl,λs a=>nomatch a⟩}
theorem RO {bx e u b x}:er (cY bx e u b x)=6\/cY bx e u b x=.fail:=by unfold cY;split;{exact .inr rfl};{split;{exact .inr rfl};{dsimp only;split;{exact .inr rfl};{(split<;>(try split)<;>(try split)<;>first|exact .inl rfl|exact .inr rfl)}}}
def Vf {ρ:Operand->Option SV}{bx:Nat->Option aY}{args:Array Operand}{ts:Array TypeId}:er (aT T ρ bx (.call ⟨.builtin .append,args,ts⟩))=6\/aT T ρ bx (.call ⟨.builtin .append,args,ts⟩)=.fail:=by simp only [aT];split<;>grind [RO]
def IV {N:Q}{dst:Option Nat}{st:St}{V:un}{K O:St->un->Prop}{W D:zA Nat}(M:er N=6\/N=.fail)(ho:∀s,G_ N=some s->q s=none/\s∈W)(hd:∀k,dst=some k->(p k=none/\k∈D)/\∀s,q (ue s k)=none/\ue s k∈W)(hd0:∀k,dst=some k->q k=none/\k∈W)(Z:∀s2 V2,Ũ p q W D st V K s2 V2->O s2 V2)(h:Ap N dst (ov p q st) V K):Ap N dst st V O:=by (cases N with|yy s vs n c x size bytes ty=>{simp only [Ap] at h ⊢;(cases dst with|none=>exact h.elim|some d=>{dsimp only at h ⊢;have ⟨⟨u,v⟩,r⟩:=hd d rfl;have ⟨B,w⟩:=ho s rfl;have core:∀k xs,zG s vs n c size bytes ty d (ov p q st) V K k xs->zG s vs n c size bytes ty d st V O k xs:=by{rintro k xs ⟨a,f,g,l,j,i⟩;refine ⟨a,f,g,l,j,?_⟩;rw [cI (r s).1] at i;split at i;{exact i.elim};{intro spare y z A;have:=i spare y z A;rw [pS B,pS (r s).1,lP (λk m=>by cases m;exact u)] at this;refine Z _ _ ⟨Ó.Le.refl V,?_,?_,this⟩;{intro t M;rw [eF,Ã (λe=>M (by rw [e];exact v))];rfl};{intro t M;show ((st.box s _).box _ _).boxes t=_;grind [ao]}}};grind})}|app old ba vs n c x size bytes ty=>{simp only [Ap] at h ⊢;(cases dst with|none=>exact h.elim|some d=>{dsimp only at h ⊢;have ⟨⟨u,v⟩,r⟩:=hd d rfl;(cases old with|some s=>{dsimp only at h ⊢;have ⟨B,w⟩:=ho s rfl;have core:∀k xs,JA s vs n c size bytes ty d (ov p q st) V K k xs->JA s vs n c size bytes ty d st V O k xs:=by{rintro k xs ⟨a,f,g,l,j,i⟩;refine ⟨a,f,g,l,j,?_⟩;rw [cI (r s).1] at i;split at i;{exact i.elim};{intro b J spare y z A;have:=i b J spare y z A;rw [pS B,pS (r s).1,lP (λk m=>by cases m;exact u)] at this;refine Z _ _ ⟨Ó.Le.refl V,?_,?_,this⟩;{intro t M;rw [eF,Ã (λe=>M (by rw [e];exact v))];rfl};{intro t M;show ((st.box s _).box _ _).boxes t=_;rw [ao,Ã (λe=>M (by rw [e];exact (r s).2)),ao,Ã (λe=>M (by rw [e];exact w))]}}};(cases x with|inr xs=>exact core _ _ h|inl ak=>{obtain ⟨xs,a,f,g⟩:=h;exact ⟨xs,a,f,core _ _ g⟩})}|none=>{dsimp only at h ⊢;obtain ⟨C,I⟩:=hd0 d rfl;obtain ⟨o,z,A,E,F,h⟩:=h;have core:∀k xs,JB o n c size bytes ty d (ov p q st) V K k xs->JB o n c size bytes ty d st V O k xs:=by{rintro k xs ⟨a,f,g,l,j⟩;refine ⟨a,f,g,l,?_⟩;rw [cI C] at j;split at j;{exact j.elim};{intro spare y G H;have:=j spare y G H;rw [pS C,lP (λk m=>by cases m;exact u)] at this;refine Z _ _ ⟨Ó.Le.refl V,?_,?_,this⟩;{intro t M;rw [eF,Ã (λe=>M (by rw [e];exact v))];rfl};{intro t M;show (st.box d _).boxes t=_;grind [ao]}}};refine ⟨o,z,A,E,F,?_⟩;(cases x with|inr xs=>exact core _ _ h|inl ak=>{obtain ⟨xs,a,f,g,l⟩:=h;refine ⟨xs,a,f,λe=>?_,λe=>core _ _ (l e)⟩;have:=g e;rw [lP (λk m=>by cases m;exact u)] at this;refine Z _ _ ⟨Ó.Le.refl V,?_,λt M=>rfl,this⟩;intro t M;rw [eF,Ã (λe=>M (by rw [e];exact v))]})})})}|fail=>exact h.elim|_=>{rcases M with M|M<;>cases M})
def xM {h:û}{o:Oper}{st:St}{V:un}{K:St->un->Prop}{R W:zA Nat}(hm:rL (bG LF RF o.op)=true\/(bG LF RF o.op=.call/\m=.none)\/((bG LF RF o.op=.oD/\m=.aw)\/(bG LF RF o.op=.give/\m=.give)\/bG LF RF o.op=.app))(hrw:wO (bG LF RF o.op) h (fI o)=some (R,W))(hp:∀t,t∈kh o.op\/t∈fI o->p t=none)(hq:∀s∈R,q s=none)(hqW:∀s∈W,q s=none){K':St->un->Prop}(hK:∀s2 V2,Ũ p q W (fI o) st V K s2 V2->K' s2 V2)(hv:dO P T m h o (ov p q st) V K):dO P T m h o st V K':=by
 have Nm:∀t∈kh o.op,st.aA t=(ov p q st).aA t:=λt ht=>by simp [ov,hp t (.inl ht)]
 rcases hm with hm|hm
 ·have ⟨p2,q2,X⟩:=tC hm hrw hv;refine X.again st V _ (Ó.Le.refl V) Nm (λs u=>(cI (hq s u)).symm) ?_;refine hK _ _ ⟨Ó.Le.refl V,λt ht=>by simp [ov,X.pd t ht],λs u=>by simp [ov,X.qd s u],?_⟩;rw [Ie];{exact X.next};{intro t;by_cases h:t∈fI o;{exact .inl (hp t (.inr h))};{exact .inr (X.pd t h)}};{intro s;by_cases h:s∈W;{exact .inl (hqW s h)};{exact .inr (X.qd s h)}}
 ·
  have j:∀(x:Operand),x∈o.op.operands.toList->(ov p q st).bK x=st.bK x:=λx J=>Yc λt e=>hp t (.inl (CF J e))
  have n:∀k,o.dst=some k->p k=none/\k∈fI o:=λk E=>by have:k∈fI o:=by{simp [fI,E]};exact ⟨hp k (.inr this),this⟩
  have body:(¬bG LF RF o.op=.app)->∀(hh:∀xs f ss Zj args z,o.op=.call ⟨.value Zj,args,z⟩->cO (ov p q st).bK args.toList=some xs->(ov p q st).bK Zj=some (.c (.tK f ss)) ->
    m=.none\/((m=.aw\/m=.give)/\(∀s∈ð (ov p q st).boxes 3 (ó ((xs++B4 ss).flatMap SV.ids)),q s=none/\s∈W)/\∀k,o.dst=some k->∀F,q (gR F k)=none/\gR F k∈W)),
    dV P T m o (ov p q st) V K->dV P T m o st V K':=by
   intro a hh hv;unfold dV at hv ⊢;split at hv
   ·rename_i Zj args z g;have e1:cO (ov p q st).bK args.toList=cO st.bK args.toList:=fN _ λx J=>j x (by rw [g];simp [Op.operands,Call.operands];exact .inr (by simpa using J));have e2:=j Zj (by rw [g];simp [Op.operands,Call.operands]);split at hv;{rename_i xs i;split at hv;{rename_i f ss B;have L:=hh _ _ _ _ _ _ g i B;rw [e1] at i;rw [e2] at B;simp only [i,B];exact su L n hK hv};{rename_i f vs B;rw [e1] at i;rw [e2] at B;simp only [i,B];exact su (.inl rfl) n hK hv};{exact hv.elim}};{exact hv.elim}
   ·rename_i recv name args z g;have a3:m=.none:=by{rw [g] at hm;rcases hm with ⟨-,h⟩|⟨h,-⟩|⟨h,-⟩|h;{exact h};{cases h};{cases h};{cases h}};have e1:cO (ov p q st).bK args.toList=cO st.bK args.toList:=fN _ λx J=>j x (by rw [g];simp [Op.operands,Call.operands];exact .inr (by simpa using J));split at hv;{rename_i xs i;split at hv;{rename_i t v B;split at hv;{rename_i f T9;rw [e1] at i;rw [(j recv (by rw [g];simp [Op.operands,Call.operands]))] at B;simp only [i,B,T9];exact su (.inl a3) n hK hv};{exact hv.elim}};{exact hv.elim}};{exact hv.elim}
   ·rename_i a0 G;exfalso;have M:bG LF RF o.op=.call\/bG LF RF o.op=.oD\/bG LF RF o.op=.give:=by{rcases hm with ⟨h,-⟩|⟨h,-⟩|⟨h,-⟩|h;{exact .inl h};{exact .inr (.inl h)};{exact .inr (.inr h)};{exact Å h a}};clear hm a hh;generalize g:o.op=op at M a0 G;(cases op with|call c=>{obtain ⟨O4,args,z⟩:=c;(cases O4 with|builtin b=>{cases b<;>rcases M with h|h|h<;>cases h}|value f=>exact a0 f args z rfl|invoke r nm=>exact G r nm args z rfl)}|_=>{rcases M with h|h|h<;>cases h})
  have N:∀l:zA Nat,W=l++fI o++(fI o).map (·+ 200000)->∀k,o.dst=some k->∀F,q (gR F k)=none/\gR F k∈W:=by intro l Y k E F;have:gR F k∈W:=by{rw [Y];rcases UI (m:=F) (d:=k) with h|h<;>rw [h]<;>simp [((n k E).2)]};exact ⟨hqW _ this,this⟩
  have own:∀l:zA Nat,h=.own l->R=l->W=l++fI o++(fI o).map (·+ 200000)->(bG LF RF o.op=.oD\/bG LF RF o.op=.give\/bG LF RF o.op=.app)->(¬bG LF RF o.op=.app->m=.aw\/m=.give)->dO P T m h o st V K':=by
   intro l hh hR Y a5 L;subst hh hR;unfold dO at hv ⊢;dsimp only at hv ⊢;split at hv
   ·rename_i ys w;split at hv
    ·rename_i H;have e0:=fN _ λx J=>j x (CE J);rw [<-e0,w];dsimp only;have D:=Dn.1 H
     have e3:gW st.boxes o.op (ys.flatMap SV.ids)=gW (ov p q st).boxes o.op (ys.flatMap SV.ids):=by revert D;unfold gW;split;{intro D;exact rM 3 _ λs u=>(cI (hq s (D s u))).symm};{exact λ_=>rfl}
     rw [e3,H];dsimp only;have a4:∀s∈R,s∈W:=λs u=>by rw [Y];simp [u]
     by_cases a:bG LF RF o.op=.app
     ·
      have g:∃args z,o.op=.call ⟨.builtin .append,args,z⟩:=by
       generalize o.op=op at a
       cases op with
       | call c=>
        obtain ⟨O4,args,z⟩:=c
        cases O4 with
        | builtin b=>cases b<;>first|exact ⟨args,z,rfl⟩|cases a
        | value f=>cases f with
         | func f=>simp only [bG] at a;split at a<;>(try split at a)<;>(try split at a)<;>(try split at a)<;>cases a
         | _=>cases a
        | _=>cases a
       | _=>cases a
      obtain ⟨args,z,g⟩:=g
      have e4:aT T st.bK st.boxes o.op=aT T (ov p q st).bK (ov p q st).boxes o.op/\∀s,G_ (aT T st.bK st.boxes o.op)=some s->s∈R:=by have e5:cO (ov p q st).bK args.toList=cO st.bK args.toList:=by{rw [g] at e0;exact e0};have a1:cO st.bK args.toList=some ys:=by{rw [g] at w;rw [<-e5];exact w};have I:∀s∈ys.flatMap SV.ids,s∈R:=by{intro s u;refine D s ?_;rw [g];simp only [gW];exact gg 3 _ s (cA.2 u)};rw [g];simp only [aT];rw [e5,a1];exact Yh (λs u=>by rw [cI (hq s (I s u))]) I
      have O:Ap (aT T (ov p q st).bK (ov p q st).boxes o.op) o.dst (ov p q st) V K:=by unfold dV at hv;rw [g] at hv ⊢;exact hv
      have Q:Ap (aT T st.bK st.boxes o.op) o.dst st V K'->dV P T m o st V K':=by intro h;unfold dV;rw [g] at h ⊢;exact h
      rw [<-e4.1] at O;refine Q ?_
      have a2:∀Z,aT T st.bK st.boxes o.op=Z->er Z=6\/Z=.fail:=by intro Z hQ;rw [<-hQ,g];exact Vf
      generalize hQ0:aT T st.bK st.boxes o.op=Z at O e4
      exact IV (a2 Z hQ0) (λs u=>⟨hq s (e4.2 s u),a4 s (e4.2 s u)⟩) (λk E=>⟨n k E,λs=>by
       have:=N R Y k E (some s);exact this⟩) (λk E=>N R Y k E Option.none) hK O
     ·have S:=L a;refine body a (λxs f ss Zj args z g i B=>.inr ⟨S,λs u=>?_,N R Y⟩) hv
      have:s∈R:=by
       apply D;rw [g] at w ⊢;simp only [gW]
       have hy:ys.flatMap SV.ids=(xs++B4 ss).flatMap SV.ids:=by
        have:∀(l:zA Operand)(xs:zA SV)(x:Operand)(v:SV),cO (ov p q st).bK l=some xs->(ov p q st).bK x=some v->cO (ov p q st).bK (l++[x])=some (xs++[v]):=by
         intro l
         induction l with
         | nil=>intro xs x v U h2;simp only [cO,ā] at U;subst U;simp [cO,h2]
         | cons o r ih=>
          intro xs x v U h2;simp only [cO] at U;split at U
          ·rename_i y l' h3 h4;cases U;simp only [Qc0,cO,h3,ih _ x v h4 h2]
          ·cases U
        simp only [nh] at w;rw [this _ _ _ _ i B] at w;cases w;simp only [Qc1];congr 1;simp [B4,SV.ids,C.ids,List.flatMap_map]
       grind
      grind
    ·exact hv.elim
   ·exact hv.elim
  rcases hm with ⟨A,hm⟩|⟨A,hm⟩|⟨A,hm⟩|A
  ·rw [A] at hrw;(cases h with|own l=>{cases hrw}|free=>{exact body (by rw [A];exact λh=>by cases h) (λ_ _ _ _ _ _ _ _ _=>.inl hm) hv})
  ·rw [A] at hrw;(cases h with|free=>{cases hrw}|own l=>{simp only [wO,ā,Ő] at hrw;exact own l rfl hrw.1.symm hrw.2.symm (.inl A) (λ_=>.inl hm)})
  ·rw [A] at hrw;(cases h with|free=>{cases hrw}|own l=>{simp only [wO,ā,Ő] at hrw;exact own l rfl hrw.1.symm hrw.2.symm (.inr (.inl A)) (λ_=>.inr hm)})
  ·rw [A] at hrw;(cases h with|free=>{cases hrw}|own l=>{simp only [wO,ā,Ő] at hrw;exact own l rfl hrw.1.symm hrw.2.symm (.inr (.inr A)) (λh=>Å A h)})
end
section
variable {P:Program} {T:dW} {LF RF:List Nat}
def Ef (ops:Array Oper)(o:Oper)(st:St)(k:St->Bool->Prop):Prop:=
 match o.guard with
 | none=>k st true
 | some (j,b)=>match (ops[j]?).bind (·.dst) with
  | none=>False
  | some g=>match st.aA g with
   | some (.c .tt)=>k st b
   | some (.c .ff)=>k st (!b)
   | some (.c (.v (.bool c)))=>(c=true->k (st.put (some g) (.c .tt)) b)/\(c=false->k (st.put (some g) (.c .ff)) (!b))
   | some (.xD _)=>k st false
   | _=>False
def qi (P:Program)(T:dW)(m:CM)(h:û)(o:Oper)(V:Ó)(K:St->Ó->Prop)(st:St)(w:Bool):Prop:=
 match w with
 | true=>dO P T m h o st V K
 | false=>K (st.put o.dst l_) V
def IU {m:CM}{h:û}{ops:Array Oper}{o:Oper}{st:St}{V:un}{K:St->un->Prop}:xg P T m h ops o st V K↔Ef ops o st (qi P T m h o V K):=by unfold xg Ef;(cases y:o.guard with|none=>rfl|some u=>{obtain ⟨j,b⟩:=u;dsimp only;(cases z:(ops[j]?).bind (·.dst) with|none=>rfl|some g=>{dsimp only;split<;>simp_all<;>cases b<;>rfl})})
def uf:Nat->Option aY:=λ_=>none
structure GOut (ops:Array Oper) (o:Oper) (st:St) (k:St->Bool->Prop) (p:Nat->Option SV) (w:Bool):Prop where
 pd:∀t,t∉gE ops o->p t=none
 next:k (ov p uf st) w
 again:∀(ik:St)(k2:St->Bool->Prop),(∀t∈gE ops o,ik.aA t=st.aA t)->k2 (ov p uf ik) w->Ef ops o ik k2
def iA {ops:Array Oper}{o:Oper}{st:St}{k:St->ut->Prop}(h:Ef ops o st k):∃p w,GOut ops o st k p w:=by unfold Ef at h;split at h;{rename_i i;exact ⟨λ_=>none,true,λ_ _=>rfl,h,λik n _ d=>by unfold Ef;rw [i];exact d⟩};{rename_i j b i;split at h;{exact h.elim};{rename_i g m;have a:gE ops o=[g]:=by{simp only [gE,i,m]};split at h;{rename_i l;exact ⟨λ_=>none,b,λ_ _=>rfl,h,λik n f d=>by unfold Ef;simp only [i,m,f g (by simp [a]),l];exact d⟩};{rename_i l;exact ⟨λ_=>none,!b,λ_ _=>rfl,h,λik n f d=>by unfold Ef;simp only [i,m,f g (by simp [a]),l];exact d⟩};{rename_i c l;(cases c with|true=>{refine ⟨one (some g) (.c .tt),b,λt q=>eU (by intro e;apply q;rw [a];simpa using e.symm),?_,λik n f d=>?_⟩;{have:=h.1 rfl;rw [gJ] at this;exact this};{unfold Ef;simp only [i,m,f g (by simp [a]),l];exact ⟨λ_=>by rw [gJ];exact d,λe=>by cases e⟩}}|false=>{refine ⟨one (some g) (.c .ff),!b,λt q=>eU (by intro e;apply q;rw [a];simpa using e.symm),?_,λik n f d=>?_⟩;{have:=h.2 rfl;rw [gJ] at this;exact this};{unfold Ef;simp only [i,m,f g (by simp [a]),l];exact ⟨λe=>(by cases e),λ_=>by rw [gJ];exact d⟩}})};{rename_i xs l;exact ⟨λ_=>none,false,λ_ _=>rfl,h,λik n f d=>by unfold Ef;simp only [i,m,f g (by simp [a]),l];exact d⟩};{exact h.elim}}}
def sC {ops:Array Oper}{o:Oper}{st:St}{k k':St->ut->Prop}(u:∀s w,k s w->k' s w)(h:Ef ops o st k):Ef ops o st k':=by have ⟨p,w,a⟩:=iA h;grind [a.again,a.next]
def put_comm {st:St}{d d':Option Nat}{x y:SV}(h:∀k,d=some k->d'≠some k):(st.put d x).put d' y=(st.put d' y).put d x:=by (cases d with|none=>rfl|some d=>{(cases d' with|none=>rfl|some d'=>{have a:d≠d':=λe=>h d rfl (by rw [e]);simp only [St.put];grind [g_]})})
def Nb {ops:Array Oper}{y z:Oper}{st:St}{F:St->ut->ut->Prop}(h:Ef ops y st λs E=>Ef ops z s λs' M=>F s' E M):Ef ops z st λs M=>Ef ops y s λs' E=>F s' E M:=by by_cases f:∃g,gE ops y=[g]/\gE ops z=[g];{obtain ⟨g,a,b⟩:=f;unfold gE at a b;split at a;{cases a};{rename_i u b1 i;split at a;{rename_i v j;cases a;split at b;{cases b};{rename_i w b2 k;split at b;{rename_i x l;cases b;unfold Ef at h ⊢;simp only [i,k,j,l] at h ⊢;split at h;{rename_i n;exact h};{rename_i n;exact h};{grind [eF]};{rename_i xs n;exact h};{exact h.elim}};{cases b}}};{cases a}}};{have ⟨q,E,d⟩:=iA h;have ⟨r,M,e⟩:=iA d.next;have p:∀o:Oper,gE ops o=[]\/∃g,gE ops o=[g]:=by{intro o;unfold gE;grind};have c:∀t,t∈gE ops y->t∉gE ops z:=χ;refine e.again st _ (λt m=>?_) (d.again _ _ (λt m=>?_) ?_);{show st.aA t=(ov q uf st).aA t;simp [ov,d.pd t (λh=>c t h m)]};{show (ov r uf st).aA t=st.aA t;simp [ov,e.pd t (c t m)]};grind [uf,Ie,e.pd,d.pd,e.next]}
theorem kJ {o k}(h:o.dst=some k):k∈fI o:=by simp [fI,h]
def X3 {ops:Array Oper}{m1 m2:CM}{h1 h2:û}{o1 Z:Oper}{st:St}{V:un}{K:St->un->Prop}(hi:Ě LF RF ops h1 h2 o1 Z=true)(hm:rL (bG LF RF Z.op)=true\/(bG LF RF Z.op=.call/\m2=.none)\/((bG LF RF Z.op=.oD/\m2=.aw)\/(bG LF RF Z.op=.give/\m2=.give)\/bG LF RF Z.op=.app))(hv:xg P T m1 h1 ops o1 st V λst1 V1=>xg P T m2 h2 ops Z st1 V1 K):xg P T m2 h2 ops Z st V λik V2=>xg P T m1 h1 ops o1 ik V2 K:=by unfold Ě at hi;simp only [Ċ] at hi;obtain ⟨⟨⟨⟨⟨v,f⟩,g⟩,w⟩,y⟩,l⟩:=hi;split at l;{rename_i S U W X z o;simp only [Ċ] at l;obtain ⟨⟨L,n⟩,A⟩:=l;rw [Kk] at f g w y L n A;have B:∀k,Z.dst=some k->o1.dst≠some k:=λk C F=>f k (kJ F) (by simp [kJ C]);simp only [IU] at hv ⊢;have O:Ef ops o1 st λs m=>Ef ops Z s λD j=>qi P T m1 h1 o1 V (λr G=>qi P T m2 h2 Z G K r j) D m:=by{refine sC (λs m c=>?_) hv;(cases m with|true=>{have ⟨p,q,i⟩:=tC v z c;have ⟨E,j,b⟩:=iA i.next;refine b.again s _ (λt a=>?_) ?_;{show s.aA t=(ov p q s).aA t;simp [ov,i.pd t (λh=>f t h (by simp [a]))]};{refine i.again _ V _ (Ó.Le.refl V) (λt a=>?_) (λ_ _=>rfl) ?_;{show (ov E uf s).aA t=s.aA t;simp [ov,b.pd t (λh=>y t h a)]};grind [Ie,uf,b.next,i.pd,b.pd]}}|false=>{simp only [qi] at c;have ⟨E,j,b⟩:=iA c;have Q:∀k,o1.dst=some k->E k=none:=λk C=>b.pd k (λh=>f k (kJ C) (by simp [h]));refine b.again s _ (λt a=>?_) ?_;{rw [gJ];simp [ov,eU (d:=o1.dst) (x:=l_) (t:=t) (λh=>f t (kJ h) (by simp [a]))]};{show qi P T m2 h2 Z V K ((ov E uf s).put o1.dst l_) j;rw [lP Q];exact b.next}})};have R:Ef ops Z st λs j=>Ef ops o1 s λD m=>qi P T m2 h2 Z V (λr G=>qi P T m1 h1 o1 G K r m) D j:=by{refine sC (λs j c=>sC (λD m c=>?_) c) (Nb O);(cases m with|true=>{have ⟨p,q,i⟩:=tC v z c;(cases j with|true=>{refine xM hm o (λt a=>i.pd t (λh=>f t h (by rcases a with a|a<;>simp [a]))) (λs u=>i.qd s (λh=>L s h u)) (λs u=>i.qd s (λh=>A s h u)) (λs2 V2 b=>?_) i.next;obtain ⟨M,H,N,I⟩:=b;exact i.again s2 V2 K M (λt a=>H t (λh=>g t h (by simp [a]))) (λs u=>N s (λh=>n s h u)) I}|false=>{refine i.again _ V K (Ó.Le.refl V) (λt a=>?_) (λs _=>by cases Z.dst<;>rfl) ?_;{rw [gJ];simp [ov,eU (d:=Z.dst) (x:=l_) (t:=t) (λh=>g t (kJ h) (by simp [a]))]};grind [i.next,qi,lP,i.pd,kJ]})}|false=>{(cases j with|true=>{simp only [qi] at c ⊢;rw [gJ] at c;refine xM hm o (λt a=>eU (λe=>f t (kJ e) (by rcases a with a|a<;>simp [a]))) (λs u=>rfl) (λs u=>rfl) (λs2 V2 b=>?_) c;have:=b.2.2.2;grind [gJ]}|false=>{simp only [qi] at c ⊢;rw [put_comm B];exact c})})};refine sC (λs j c=>?_) R;(cases j with|true=>{simp only [qi] at c ⊢;have ⟨p,m,b⟩:=iA c;refine xM hm o (λt a=>b.pd t (λh=>?_)) (λ_ _=>rfl) (λ_ _=>rfl) (λs2 V2 J=>?_) b.next;{rcases a with a|a;{exact w t h a};{exact g t a (by simp [h])}};{obtain ⟨M,H,N,I⟩:=J;exact b.again s2 _ (λt a=>H t (λh=>g t h (by simp [a]))) I}}|false=>{simp only [qi] at c ⊢;have ⟨p,m,b⟩:=iA c;refine b.again _ _ (λt a=>?_) ?_;{rw [gJ];simp [ov,eU (d:=Z.dst) (x:=l_) (t:=t) (λh=>g t (kJ h) (by simp [a]))]};{have:=b.next;rw [lP (λk C=>b.pd k (λh=>g k (kJ C) (by simp [h])))] at this;exact this}})};{cases l}
end
end Go.Eng
