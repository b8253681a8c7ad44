import Derived.Test.YtbdlbajodgoneaaGreatDoorS3
set_option linter.all false
open Go.IntKind (i64 u64 u32)
namespace Go.Eng
section
variable{P:Program}{T:eA}{n:Nat}{V0:Ó}{bQ:MN}{β0:Nat->Nat}{st:St}{β:Nat->Nat}{a:Act}{w:World}{V:Ó}
def NL {t:TypeId}{name:String}{f:FuncId}(h:NK P t name=some f)(k:Nat)(v:un)(w:World):(Go.method (k+1) t v name).run P w=.ok (f,v) w:=by unfold NK at h;split at h;{rename_i i d b c;split at h;{rename_i m hm;split at h;{rename_i j l e g;cases h;have a:m.path=#[]:=by{apply ņ;exact e};simp only [Go.method,typeInfo,Sem.run_bind,run_program,Result.andThen_ok,b,hm,Sem.run_pure,a,follow,g,receiverAt,ai c,Place.get]};cases h};cases h};cases h
def zu (hT:eA.ok P T)(E:à n V0 bQ β0 st β a w V){m:CM}{o:Oper}{K:St->ut->Prop}{next:Act->World->Prop}{Q:Exit->Act->World->Prop}(M:∀d,o.dst=some d->d<n)(D:ew P T m o st V K)(N:∀F β' O w' V',à n V0 bQ β0 F β' O w' V'->K F V'->next O w'):o.wp P a w next Q:=by unfold ew at D;split at D;{rename_i B args x e;split at D;{rename_i xs g;have ⟨q,y⟩:=iG E _ _ g;split at D;{rename_i f r h;have ⟨i,j⟩:=uN (Q:=Q) E M D N;have k:args.map a.eval=(xs.map (SV.den β)).toArray:=by{apply ņ;rw [Qf3];exact q};have l:aI β (xs++Cc r)=(xs.map (SV.den β)).toArray++(r.map λs=>Value.pointer (some ⟨β s,0,none⟩)).toArray:=by{unfold aI Cc;grind [SV.den,C.den]};have b:(execOp a.eval o).run P w=.ok (.enter f (aI β (xs++Cc r))) w:=by{rw [l];simp only [execOp,e,resolve,E.eval h,SV.den,C.den,Deferred.ofValue,pure_bind,invoke,k,Array.empty_append];exact i.run _};unfold Oper.wp;rw [b];exact j};{rename_i f p h;have ⟨i,j⟩:=uN (Q:=Q) E M D N;have k:args.map a.eval=(xs.map (SV.den β)).toArray:=by{apply ņ;rw [Qf3];exact q};have u:(p.map C.v).map (C.den β)=p:=by{rw [Wq2];exact List.map_id _};have l:aI β (.agg (p.map .v)::xs)=#[.agg p.toArray]++(xs.map (SV.den β)).toArray:=by{unfold aI;rw [Ł,SV.den,u];simp};have b:(execOp a.eval o).run P w=.ok (.enter f (aI β (.agg (p.map .v)::xs))) w:=by{rw [l];simp only [execOp,e,resolve,E.eval h,SV.den,C.den,Deferred.ofValue,pure_bind,invoke,k,Array.append_empty];exact i.run _};unfold Oper.wp;rw [b];exact j};exact D.elim};exact D.elim};{rename_i recv name args x e;split at D;{rename_i xs g;have ⟨q,y⟩:=iG E _ _ g;split at D;{rename_i t v h;split at D;{rename_i f z;have ⟨i,j⟩:=uN (Q:=Q) E M D N;have k:args.map a.eval=(xs.map (SV.den β)).toArray:=by{apply ņ;rw [Qf3];exact q};have l:aI β (.c (.w v)::xs)=#[v]++(xs.map (SV.den β)).toArray:=by{unfold aI;grind [SV.den,C.den]};have b:(execOp a.eval o).run P w=.ok (.enter f (aI β (.c (.w v)::xs))) w:=by{rw [l];have u:(#[Value.iface t v]++(xs.map (SV.den β)).toArray).extract 1 (#[Value.iface t v]++(xs.map (SV.den β)).toArray).size=(xs.map (SV.den β)).toArray:=χ;have A:(#[Value.iface t v]++(xs.map (SV.den β)).toArray)[0]?=some (Value.iface t v):=ψ;simp only [execOp,e,resolve,E.eval h,SV.den,C.den,pure_bind,invoke,k,A,u,callMethod,Sem.run_bind,run_program,Result.andThen_ok,Made.depth];rw [NL z];exact i.run _};unfold Oper.wp;rw [b];exact j};exact D.elim};exact D.elim};exact D.elim};grind [Lh]
theorem lC (hT:eA.ok P T)(z:à n V0 bQ β0 st β a w V){m:CM}{h:þ}{o:Oper}{K:St->ut->Prop}{next:Act->World->Prop}{Q:Exit->Act->World->Prop}(D:∀d,o.dst=some d->d<n)(u:dW P T m h o st V K)(E:∀y β' F w' V',à n V0 bQ β0 y β' F w' V'->K y V'->next F w'):o.wp P a w next Q:=by unfold dW at u;split at u;{exact zu hT z D u E};split at u;{split at u;{exact zu hT z D u E};exact u.elim};exact u.elim
def à.refine (u:à n V0 bQ β0 st β a w V){g:Nat}{x y:SV}(E:st.aC g=some x)(he:x.den β=y.den β)(D:y.ids=[]):à n V0 bQ β0 (st.put (some g) y) β a w V:=by refine ⟨u.defers,u.size,?_,?_,u.Ev,u.boxes,u.inj,u.tP,u.Ak,u.ext,u.own,u.oP,u.nh,u.small⟩;{grind [eZ,u.aC]};intro t z b;rw [eZ] at b;split at b;{simp only [ą] at b;rw [<-b,D];exact λs c=>(nomatch c)};exact u.Ew t z b
def OX {ops:Array Oper}{tmps:Array un}{j g:Nat}(u:(ops[j]?).bind (·.dst)=some g):yielded ops tmps j=match tmps.getD g undef with|.bool b=>some b|_=>none:=by unfold yielded;rw [u];simp only [Option.bind_some];by_cases h:g<tmps.size;{have a:=getElem?_pos tmps g h;have c:tmps.getD g undef=tmps[g]:=by{simp [h]};grind};simp [h,undef]
def KZ (hT:eA.ok P T)(z:à n V0 bQ β0 st β a w V){m:CM}{h:þ}{ops:Array Oper}{o:Oper}{K:St->ut->Prop}{next:Act->World->Prop}{Q:Exit->Act->World->Prop}(D:∀d,o.dst=some d->d<n)(y:xw P T m h ops o st V K)(E:∀F β' M w' V',à n V0 bQ β0 F β' M w' V'->K F V'->next M w'):if Region.wanted o (yielded ops a.tmps) then o.wp P a w next Q else next (a.put o.dst undef) w:=by unfold xw at y;split at y;{grind [Region.wanted,lC]};rename_i j b t;split at y;{exact y.elim};rename_i g l;have u:=OX (tmps:=a.tmps) l;have f:∀c:md,a.tmps.getD g undef=.bool c->(Region.wanted o (yielded ops a.tmps)=true↔c=b):=by{grind [Region.wanted]};have skip:∀{iw:St},à n V0 bQ β0 iw β a w V->K (iw.put o.dst my) V->next (a.put o.dst undef) w:=by{intro iw p q;exact E _ _ _ _ _ (p.Lc D rfl (cG rfl)) q};split at y;{rename_i k;have i:=z.aC g _ k;split at y;{rw [Ä ((f true i).2 rfl)];exact lC hT z D y E};rw [Ã (λh=>by have:=(f true i).1 h;cases this)];exact skip z y};{rename_i k;have i:=z.aC g _ k;split at y;{rw [Ã (λh=>by have:=(f false i).1 h;cases this)];exact skip z y};rw [Ä ((f false i).2 rfl)];exact lC hT z D y E};{rename_i c k;have i:=z.aC g _ k;have r:c=true->à n V0 bQ β0 (st.put (some g) (.c .tt)) β a w V:=λe=>z.refine k (by rw [e];rfl) rfl;have s:c=false->à n V0 bQ β0 (st.put (some g) (.c .ff)) β a w V:=λe=>z.refine k (by rw [e];rfl) rfl;split at y;{(cases c with|true=>{rw [Ä ((f true i).2 rfl)];exact lC hT (r rfl) D (y.1 rfl) E}|false=>{rw [Ã (λh=>by have:=(f false i).1 h;cases this)];exact skip (s rfl) (y.2 rfl)})};(cases c with|true=>{rw [Ã (λh=>by have:=(f true i).1 h;cases this)];exact skip (r rfl) (y.1 rfl)}|false=>{rw [Ä ((f false i).2 rfl)];exact lC hT (s rfl) D (y.2 rfl) E})};{rename_i xs k;have i:=z.aC g _ k;grind [Region.wanted,SV.den]};exact y.elim
def GV (hT:eA.ok P T){m:Nat->CM}{hint:Nat->þ}{ops:Array Oper}(E:∀(i:Nat)(o:Oper),ops[i]?=some o->∀d,o.dst=some d->d<n){Q:Exit->Act->World->Prop}{K:St->ut->Prop}(F:∀u β' z w' V',à n V0 bQ β0 u β' z w' V'->K u V'->Q .normal z w'):∀(l:zA Nat)(st:St)(β:Nat->Nat)(a:Act)(w:World)(V:ut),à n V0 bQ β0 st β a w V->VL P T m hint ops l st V K->wpOps P ops Q l a w
 | [],st,β,a,w,V,D,y=>F _ _ _ _ _ D y
 | i::r,st,β,a,w,V,D,y=>by
  simp only [VL] at y;simp only [wpOps];split at y
  ·rename_i o M;rw [M];dsimp only;have:=KZ (Q:=Q) (next:=wpOps P ops Q r) hT D (E i o M) y (λu β' z w' V' b c=>GV hT E F r u β' z w' V' b c);grind
  ·exact y.elim
end
section
def ov (p:Nat->Option SV)(q:Nat->Option a_)(st:St):St:=
 ⟨λt=>match p t with|some x=>some x|none=>st.aC t,λt=>match q t with|some x=>some x|none=>st.boxes t⟩
theorem iu {a b:Nat}(h:a≠b):Nat.beq a b=false:=by cases u:Nat.beq a b;{rfl};exact Å (beq_eq.1 u) h
section
variable{p:Nat->Option SV}{q:Nat->Option a_}{st:St}
theorem mh {d:Option Nat}{x:SV}(h:∀k,d=some k->p k=none):(ov p q st).put d x=ov p q (st.put d x):=by (cases d with|none=>rfl|some d=>{have a:=h d rfl;simp only [ov,St.put];grind [iu]})
theorem pM {s:Nat}{b:a_}(h:q s=none):(ov p q st).box s b=ov p q (st.box s b):=by simp only [ov,St.box];grind [iu]
theorem cO {s:Nat}(h:q s=none):(ov p q st).boxes s=st.boxes s:=by simp [ov,h]
def Yc {x:Operand}(h:∀t,x=.tmp t->p t=none):(ov p q st).bN x=st.bN x:=by (cases x with|tmp t=>simp [St.bN,ov,h t rfl]|_=>rfl)
def one {α:Type}(d:Option Nat)(x:α):Nat->Option α:=λt=>match d with|some k=>cond (Nat.beq t k) (some x) none|none=>none
theorem fD {α:Type}{d:Option Nat}{x:α}{t:Nat}(h:d≠some t):one d x t=none:=by cases d<;>grind [one,iu]
theorem gV (d:Option Nat)(x:SV):st.put d x=ov (one d x) (λ_=>none) st:=by (cases d with|none=>rfl|some d=>grind [ov,St.put,one])
theorem S4 (s:Nat)(b:a_):st.box s b=ov (λ_=>none) (one (some s) b) st:=by grind [ov,St.box,one]
def F7 (s:Nat)(b:a_)(d:Option Nat)(x:SV):(st.box s b).put d x=ov (one d x) (one (some s) b) st:=by rw [gV,S4];rfl
end
def fZ {ρ ρ':Operand->Option SV}:∀l:zA Operand,(∀x∈l,ρ x=ρ' x)->cS ρ l=cS ρ' l
 | [],_=>rfl
 | o::r,h=>by simp only [cS];rw [h o ψ,fZ r λx u=>h x (by simp [u])]
def nD {ρ ρ':Operand->Option SV}:∀l:zA (Nat×Operand),(∀x∈l.map (·.2),ρ x=ρ' x)->ù ρ l=ù ρ' l
 | [],_=>rfl
 | (i,o)::r,h=>by simp only [ù];rw [h o ψ,nD r λx u=>h x (by simp only [Ł,í];exact .inr u)]
theorem NU {ρ ρ':Operand->Option SV}:∀l:Option Operand,(∀x,l=some x->ρ x=ρ' x)->Im ρ l=Im ρ' l
 | none,_=>rfl
 | some o,h=>by simp only [Im];rw [h o rfl]
def rO {T:eA}{ρ ρ':Operand->Option SV}{bx:Nat->Option a_}{op:Op}(h:∀x∈op.operands.toList,ρ x=ρ' x):aU T ρ bx op=aU T ρ' bx op:=by (cases op with|move x=>{simp only [aU];rw [h x (by simp [Op.operands])]}|assign x=>{simp only [aU];rw [h x (by simp [Op.operands])]}|pick c a b=>{simp only [aU];rw [h c (by simp [Op.operands]),h a (by simp [Op.operands]),h b (by simp [Op.operands])]}|box t x=>{simp only [aU];rw [h x (by simp [Op.operands])]}|build t u=>{simp only [aU];rw [nD _ λx g=>h x (by simpa [Op.operands] using g)]}|buildSlice t n u=>{simp only [aU];rw [nD _ λx g=>h x (by simpa [Op.operands] using g)]}|load t a=>{simp only [aU];rw [h a (by simp [Op.operands])]}|store t a x=>{simp only [aU];rw [h a (by simp [Op.operands]),h x (by simp [Op.operands])]}|nilCheck x=>{simp only [aU];rw [h x (by simp [Op.operands])]}|binOp o z x y D=>{simp only [aU];rw [h x (by simp [Op.operands]),h y (by simp [Op.operands])]}|unOp o z x=>{cases o<;>simp only [aU]<;>rw [h x (by simp [Op.operands])]}|convert s d x=>{simp only [aU];rw [h x (by simp [Op.operands])]}|makeFunc fn first caps=>{(cases fn with|func f=>{have k:cS ρ caps.toList=cS ρ' caps.toList:=fZ _ λx g=>h x (by simp [Op.operands];exact .inr (by simpa using g));have l:∀x∈first.toList,ρ x=ρ' x:=λx g=>h x (by simp [Op.operands];exact .inl (by simpa using g));simp only [aU,k];(split<;>try rfl);rename_i x g;rw [l x (by rw [g];simp)]}|_=>rfl)}|makeSlice t a b=>{simp only [aU];rw [h a (by simp [Op.operands]),h b (by simp [Op.operands])]}|slice t x lo hi mx=>{simp only [aU];grind [Op.operands,NU]}|fieldAddr t x f=>{simp only [aU];rw [h x (by simp [Op.operands])]}|field t x f=>{simp only [aU];rw [h x (by simp [Op.operands])]}|indexAddr t x i=>{simp only [aU];rw [h x (by simp [Op.operands]),h i (by simp [Op.operands])]}|extract x j=>{simp only [aU];rw [h x (by simp [Op.operands])]}|index t x i=>{simp only [aU];rw [h x (by simp [Op.operands]),h i (by simp [Op.operands])]}|makeInterface t x=>{simp only [aU];rw [h x (by simp [Op.operands])]}|call c=>{obtain ⟨m,args,p⟩:=c;(cases m with|builtin b=>{have e:cS ρ args.toList=cS ρ' args.toList:=fZ _ λx g=>h x (by simpa [Op.operands,Call.operands] using g);cases b<;>simp only [aU]<;>rw [e]}|_=>rfl)}|_=>rfl)
def U7 {T:eA}{LF RF:zA Nat}{ρ:Operand->Option SV}{bx bx':Nat->Option a_}{op:Op}(h:bI LF RF op=.pure\/bI LF RF op=.alloc):aU T ρ bx op=aU T ρ bx' op:=by (cases op with|load t a=>{rcases h with h|h<;>cases h}|store t a x=>{rcases h with h|h<;>cases h}|unOp o u x=>{cases o<;>rfl}|makeFunc fn first caps=>{cases fn<;>rfl}|call c=>{obtain ⟨d,args,e⟩:=c;(cases d with|builtin b=>{(cases b<;>first|rfl|(rcases h with h|h<;>cases h))}|_=>rfl)}|_=>rfl)
theorem U9 {bx bx':Nat->Option a_}{i:TI}{x:SV}(h:∀s∈x.ids,bx' s=bx s):mj bx i x=mj bx' i x:=by unfold mj;grind [SV.ids,C.ids]
def RY {bx bx':Nat->Option a_}{i:TI}{x y:SV}(h:∀s∈x.ids,bx' s=bx s):jz bx i x y=jz bx' i x y:=by unfold jz;grind [SV.ids,C.ids]
def N7 {bx:Nat->Option a_}{i:TI}{x y:SV}{sc:zA Prop}{s:Nat}{b:a_}(h:jz bx i x y=.As sc s b):s∈x.ids:=by unfold jz at h;grind [SV.ids,C.ids]
def PY {V:ut}{p:Addr}:∀(cs:zA C) (i:Nat) {k:Prop},V.Yk p i cs k↔V.Yk p i cs True/\k
 | [],_,k=>by simp [Ó.Yk]
 | c::r,i,k=>by
  simp only [Ó.Yk];rw [PY r (i+1),and_assoc]
def Vb {V V':ut}(h:V.Le V'){p:Addr}:∀(cs:zA C) (i:Nat) {k:Prop},V.Yk p i cs k->V'.Yk p i cs k
 | [],_,_,u=>u
 | c::r,i,_,u=>⟨h.at u.1,Vb h r (i+1) u.2⟩
def wQ {V:ut}{p:OA}{x:SV}{k:Prop}:V.Yj p x k↔V.Yj p x True/\k:=by (cases x with|agg cs=>{simp only [Ó.Yj];constructor;{rintro ⟨a,c,b⟩;rw [PY] at b;exact ⟨⟨a,c,b.1⟩,b.2⟩};grind}|_=>grind [Ó.Yj])
def rdV_le {V V':ut}(h:V.Le V'){p:OA}{x:SV}{k:Prop}(u:V.Yj p x k):V'.Yj p x k:=by (cases x with|c c=>{obtain ⟨⟨a,b,d⟩,e⟩:=u;exact ⟨⟨a,b,h.at d⟩,e⟩}|agg cs=>{obtain ⟨a,b,d⟩:=u;exact ⟨a,b,Vb h _ _ d⟩}|xP xs=>exact u)
def Er.split:∀(s:Er) {F:C->Prop},s.ex F->∃x,F x/\∀G:C->Prop,G x->s.ex G
 | .int _,_,⟨_,h⟩=>⟨_,h,λ_ g=>⟨_,g⟩⟩
 | .bool,_,⟨_,h⟩=>⟨_,h,λ_ g=>⟨_,g⟩⟩
 | .slice,_,⟨_,_,_,h⟩=>⟨_,h,λ_ g=>⟨_,_,_,g⟩⟩
 | .ptr,_,⟨_,h⟩=>⟨_,h,λ_ g=>⟨_,g⟩⟩
 | .str,_,⟨_,h⟩=>⟨_,h,λ_ g=>⟨_,g⟩⟩
 | .any,_,⟨_,h⟩=>⟨_,h,λ_ g=>⟨_,g⟩⟩
def tq:∀(l:zA Er) {F:zA C->Prop},exL l F->∃x,F x/\∀G:zA C->Prop,G x->exL l G
 | [],_,h=>⟨_,h,λ_ g=>g⟩
 | s::r,_,h=>by
  have ⟨c,u,y⟩:=Er.split s h;have ⟨cs,a,b⟩:=tq r u;exact ⟨c::cs,a,λG g=>y _ (b _ g)⟩
def BB.split:∀(s:BB) {F:SV->Prop},s.ex F->∃x,F x/\∀G:SV->Prop,G x->s.ex G
 | .one s,_,h=>by have ⟨c,u,y⟩:=Er.split s h;exact ⟨.c c,u,λG g=>y _ g⟩
 | .agg l,_,h=>by have ⟨c,u,y⟩:=tq l h;exact ⟨.agg c,u,λG g=>y _ g⟩
def yz:∀(l:zA BB) {F:zA (md×zA C)->Prop},exT l F->∃x,F x/\∀G:zA (md×zA C)->Prop,G x->exT l G
 | [],_,h=>⟨_,h,λ_ g=>g⟩
 | .one s::r,_,h=>by
  have ⟨c,u,y⟩:=Er.split s h;have ⟨cs,a,b⟩:=yz r u;exact ⟨_,a,λG g=>y _ (b _ g)⟩
 | .agg l::r,_,h=>by
  have ⟨c,u,y⟩:=tq l h;have ⟨cs,a,b⟩:=yz r u;exact ⟨_,a,λG g=>y _ (b _ g)⟩
def Sh.split:∀(s:Sh) {F:SV->Prop},s.ex F->∃x,F x/\∀G:SV->Prop,G x->s.ex G
 | .val s,_,h=>BB.split s h
 | .xP l,_,h=>by have ⟨x,u,y⟩:=yz l h;exact ⟨_,u,λG g=>y _ g⟩
 | .none,_,h=>⟨_,h,λ_ g=>g⟩
def Sh.s {s:Sh}{F G:SV->Prop}(h:s.ex F)(k:∀x,F x->G x):s.ex G:=by have ⟨x,a,b⟩:=s.split h;exact b G (k x a)
def Dz {l m:zA Nat}:VB l m=true↔∀x∈l,x∈m:=by simp only [VB,Į,d_]
def CT {op:Op}{x:Operand}(h:x∈op.operands.toList){t:Nat}(e:x=.tmp t):t∈ku op:=by subst e;exact List.mem_filterMap.2 ⟨_,h,rfl⟩
def tF {st iw:St}{op:Op}(h:∀t∈ku op,iw.aC t=st.aC t){x:Operand}(u:x∈op.operands.toList):iw.bN x=st.bN x:=by (cases x with|tmp t=>exact h t (CT u rfl)|_=>rfl)
def CS {op:Op}{x:Operand}(h:x∈nu op):x∈op.operands.toList:=by unfold nu at h;grind [Op.operands,Call.operands]
def yM {ρ:Operand->Option SV}:∀{l:zA Operand} {xs:zA SV},cS ρ l=some xs->∀x∈l,∃v,ρ x=some v/\v∈xs
 | [],_,_,_,y=>nomatch y
 | o::r,xs,h,x,y=>by
  simp only [cS] at h;split at h
  ·rename_i v l z D;cases h;rcases í.1 y with e|y
   ·exact ⟨v,by rw [e];exact z,ψ⟩
   ·have ⟨u,hu,hm⟩:=yM D x y;grind
  ·cases h
structure ľ (P:Program) (T:eA) (m:CM) (h:þ) (o:Oper) (st:St) (V:Ó) (R W:List Nat) (K:St->Ó->Prop) (p:Nat->Option SV) (q:Nat->Option a_):Prop where
 pd:∀t,t∉fV o->p t=none
 qd:∀s,s∉W->q s=none
 next:K (ov p q st) V
 again:∀(iw:St)(V2:Ó)(K2:St->Ó->Prop),V.Le V2->(∀t∈ku o.op,iw.aC t=st.aC t)->(∀s∈R,iw.boxes s=st.boxes s)->K2 (ov p q iw) V2->dW P T m h o iw V2 K2
variable{P:Program}{T:eA}{LF RF:List Nat}{m:CM}
def HT {o:Oper}{t:Nat}(h:t∉fV o):o.dst≠some t:=by intro e;apply h;simp [fV,e]
def YM {o:Oper}{st:St}{V:ut}{K:St->ut->Prop}{R W:zA Nat}{E:Q}(hnew:∀sc b x,E=.new sc b x->fV o=W/\fV o=R)(hupd:∀sc s b,E=.As sc s b->s∈W)(happ:eU E≠6)(D:At E o.dst st V K):∃p q,(∀t,t∉fV o->p t=none)/\(∀s,s∉W->q s=none)/\K (ov p q st) V/\∀(iw:St)(V2:ut)(K2:St->ut->Prop),V.Le V2->(∀s∈R,iw.boxes s=st.boxes s)->K2 (ov p q iw) V2->At E o.dst iw V2 K2:=by (cases E with|fail=>exact D.elim|ret sc x=>{obtain ⟨h,k⟩:=(fN sc _).1 D;refine ⟨one o.dst x,λ_=>none,λt l=>fD (HT l),λ_ _=>rfl,by rw [<-gV];exact k,?_⟩;intro iw V2 K2 _ _ m;exact (fN sc _).2 ⟨h,by rw [gV];exact m⟩}|new sc b x=>{have ⟨r,u⟩:=hnew _ _ _ rfl;simp only [At] at D ⊢;(cases F:o.dst with|none=>{rw [F] at D;exact D.elim}|some d=>{have n:fV o=[d]:=by{simp [fV,F]};rw [F] at D;dsimp only at D ⊢;split at D;{rename_i v;obtain ⟨h,k⟩:=(fN sc _).1 D;refine ⟨one (some d) (x d),one (some d) b,λt l=>fD (by intro e;apply l;rw [n];simpa using e.symm),λs w=>fD (by intro e;apply w;rw [<-r,n];simpa using e.symm),by rw [<-F7];exact k,?_⟩;intro iw V2 K2 _ y m;rw [y d (by rw [<-u,n];simp),v];exact (fN sc _).2 ⟨h,by rw [F7];exact m⟩};exact D.elim})}|As sc s b=>{simp only [At] at D ⊢;(cases F:o.dst with|some d=>{rw [F] at D;exact D.elim}|none=>grind [fN,fD,S4])}|rd a sh=>{have ⟨x,h,k⟩:=sh.split D;have ⟨z,A⟩:=wQ.1 h;refine ⟨one o.dst x,λ_=>none,λt l=>fD (HT l),λ_ _=>rfl,by rw [<-gV];exact A,?_⟩;intro iw V2 K2 hle _ m;exact k _ (wQ.2 ⟨rdV_le hle z,by rw [gV];exact m⟩)}|ur vs of size sh=>{have ⟨x,h,k⟩:=sh.split D;refine ⟨one o.dst x,λ_=>none,λt l=>fD (HT l),λ_ _=>rfl,by rw [<-gV];exact h.2,?_⟩;intro iw V2 K2 hle _ m;exact k _ ⟨h.1,by rw [gV];exact m⟩}|app a b c d e f g i j=>exact Å rfl happ|yJ a b c d e f g i=>exact Å rfl happ)
def Dh {o:Oper}(h:rP (bI LF RF o.op)=true)(st:St)(V:ut)(K:St->ut->Prop):ew P T m o st V K=At (aU T st.bN st.boxes o.op) o.dst st V K:=by unfold ew;split;{rename_i f args b a;rw [a] at h;exfalso;(cases f with|func f=>{simp only [bI] at h;split at h;{split at h<;>cases h};split at h;{cases h};split at h<;>cases h}|_=>{cases h})};{rename_i recv name args b a;rw [a] at h;cases h};rfl
def vo {ρ:Operand->Option SV}{bx:Nat->Option a_}{op:Op}:eU (aU T ρ bx op)=2->bI LF RF op=.alloc:=by
 have u:∀{q:Q} {X:Prop},eU q<=1->eU q=2->X:=by intro q X h y;omega
 unfold aU;split
 case h_8=>
  split
  ·intro h;rcases Hg (bx:=bx) with y|y|y|y<;>(rw [y] at h;cases h)
  ·exact u (å _)
 case h_9=>
  split
  ·intro h;rcases DI (bx:=bx) with y|y<;>(rw [y] at h;cases h)
  ·exact u (å _)
 case h_11=>
  split
  ·split;{split;{exact u xi};exact u (å _)};exact u xi
  ·exact u (å _)
 case h_17=>exact λ_=>rfl
 case h_18=>
  split
  ·split;{split;{exact u DH};exact u (å _)};exact u (å _)
  ·exact u (å _)
 case h_21=>
  split
  ·exact u sF
  ·exact u (å _)
 case h_23 c=>
  split
  ·intro h;exfalso;split at h<;>(try split at h)<;>(try split at h)<;>(try split at h)<;>first|(rcases sE (bx:=bx) with y|y<;>(rw [y] at h;cases h))|cases h
  ·split;{intro h;rcases DG (T:=T) (bx:=bx) with y|y<;>(rw [y] at h;cases h)};exact u (å _)
  ·split;{split;{exact u xj};exact u (å _)};exact u (å _)
  ·exact u (å _)
 all_goals
  first
  | exact λ_=>rfl
  | exact u (å _)
  | ((repeat' split)<;>first|exact u (å _)|exact u (Ú _)|exact u uv|(unfold Df;(repeat' split)<;>first|exact u (å _)|exact u (Ú _)))
def GJ {st iw:St}{op:Op}(h:∀t∈ku op,iw.aC t=st.aC t):cS iw.bN (nu op)=cS st.bN (nu op):=
 fZ _ λ_ a=>tF h (CS a)
def tI {h:þ}{o:Oper}{st:St}{V:ut}{K:St->ut->Prop}{R W:zA Nat}(hq:rP (bI LF RF o.op)=true)(hrw:wX (bI LF RF o.op) h (fV o)=some (R,W))(hv:dW P T m h o st V K):∃p q,ľ P T m h o st V R W K p q:=by
 have core:(∀iw:St,(∀t∈ku o.op,iw.aC t=st.aC t)->(∀s∈R,iw.boxes s=st.boxes s)->aU T iw.bN iw.boxes o.op=aU T st.bN st.boxes o.op) ->
   (∀B b x,aU T st.bN st.boxes o.op=.new B b x->fV o=W/\fV o=R)->(∀B s b,aU T st.bN st.boxes o.op=.As B s b->s∈W) ->
   (∀(iw:St)(V2:ut)(C:St->ut->Prop),(∀t∈ku o.op,iw.aC t=st.aC t)->ew P T m o iw V2 C->dW P T m h o iw V2 C) ->
   ew P T m o st V K->∃p q,ľ P T m h o st V R W K p q:=by
  intro he O hu A hv;rw [Dh hq] at hv
  obtain ⟨p,q,Q,S,U,X⟩:=YM (R:=R) (W:=W) O hu (λk=>by
   obtain ⟨Y,d,D⟩:=(iH (T:=T) (ρ:=st.bN) (bx:=st.boxes) (op:=o.op)).2.2 k;rw [d] at hq;obtain ⟨E,args,I⟩:=Y;dsimp only at D;subst D;cases hq) hv
  refine ⟨p,q,Q,S,U,λiw V2 C hle F G Z=>?_⟩;refine A iw V2 C F ?_;rw [Dh hq,he iw F G];exact X iw V2 C hle G Z
 have J:bI LF RF o.op=.pure\/bI LF RF o.op=.alloc->h=.free->(bI LF RF o.op=.alloc->R=fV o/\W=fV o)->∃p q,ľ P T m h o st V R W K p q:=by intro g hf hd;subst hf;refine core (λiw r _=>?_) (λB b x k=>?_) (λB s b k=>?_) (λ_ _ _ _ A=>A) hv;{rw [U7 (bx':=st.boxes) g];exact rO λx H=>tF r H};{have:=hd (vo (by rw [k];rfl));exact ⟨this.2.symm,this.1.symm⟩};rcases (iH (T:=T) (ρ:=st.bN) (bx:=st.boxes) (op:=o.op)).1 (by rw [k];rfl) with ⟨t,y,x,d⟩|⟨⟨E,args,I⟩,d,D⟩;{rw [d] at g;rcases g with g|g<;>cases g};dsimp only at D;subst D;rw [d] at g;rcases g with g|g<;>cases g
 generalize g:bI LF RF o.op=c at hrw hq J
 cases c with
 | pure=>
  cases h with
  | free=>exact J (.inl rfl) rfl ű
  | own l=>cases hrw
 | alloc=>
  cases h with
  | free=>
   simp only [wX,ą,Š] at hrw;exact J (.inr rfl) rfl (λ_=>⟨hrw.1.symm,hrw.2.symm⟩)
  | own l=>cases hrw
 | load=>
  cases h with
  | free=>cases hrw
  | own l=>
   simp only [wX,ą,Š] at hrw;obtain ⟨rfl,rfl⟩:=hrw
   have d:∃t a,o.op=.load t a:=by
    generalize o.op=op at g
    cases op with
    | load t a=>exact ⟨t,a,rfl⟩
    | call c=>obtain ⟨E,args,I⟩:=c;cases E with
     | builtin b=>cases b<;>cases g
     | value f=>cases f with
      | func f=>simp only [bI] at g;split at g<;>(try split at g)<;>(try split at g)<;>(try split at g)<;>cases g
      | _=>cases g
     | _=>cases g
    | _=>cases g
   obtain ⟨t,a,d⟩:=d;unfold dW at hv;dsimp only at hv;split at hv
   ·rename_i xs n;split at hv;{rename_i j;have L:∀v,st.bN a=some v->∀s∈v.ids,s∈l:=by{intro v Cw s r;rw [Dz] at j;apply j;rw [d] at n;have ⟨u,hu,hm⟩:=yM n a (by simp [nu]);rw [d];simp only [ik];grind};refine core (λiw r A=>?_) (λB b x k=>?_) (λB s b k=>?_) (λiw V2 C r A=>?_) hv;{rw [d] at r ⊢;rw [rO (ρ':=st.bN) λx H=>tF r H];simp only [aU];grind [U9]};{have:=vo (LF:=LF) (RF:=RF) (op:=o.op) (T:=T) (ρ:=st.bN) (bx:=st.boxes) (by rw [k];rfl);rw [d] at this;cases this};{rcases (iH (T:=T) (ρ:=st.bN) (bx:=st.boxes) (op:=o.op)).1 (by rw [k];rfl) with ⟨t,y,x,z⟩|⟨c,z,-⟩<;>(rw [d] at z;cases z)};unfold dW;dsimp only;rw [GJ r,n];dsimp only;have:ik iw.boxes o.op (xs.flatMap SV.ids)=ik st.boxes o.op (xs.flatMap SV.ids):=by{rw [d];rfl};rw [this,j];exact A};exact hv.elim
   ·exact hv.elim
 | store=>
  cases h with
  | free=>cases hrw
  | own l=>
   simp only [wX,ą,Š] at hrw;obtain ⟨rfl,rfl⟩:=hrw
   have d:∃t a x,o.op=.store t a x:=by
    generalize o.op=op at g
    cases op with
    | store t a x=>exact ⟨t,a,x,rfl⟩
    | call c=>obtain ⟨E,args,I⟩:=c;cases E with
     | builtin b=>cases b<;>cases g
     | value f=>cases f with
      | func f=>simp only [bI] at g;split at g<;>(try split at g)<;>(try split at g)<;>(try split at g)<;>cases g
      | _=>cases g
     | _=>cases g
    | _=>cases g
   obtain ⟨t,a,y,d⟩:=d;unfold dW at hv;dsimp only at hv;split at hv
   ·rename_i xs n;split at hv;{rename_i j;have L:∀v,st.bN a=some v->∀s∈v.ids,s∈l:=by{intro v Cw s r;rw [Dz] at j;apply j;rw [d] at n;have ⟨u,hu,hm⟩:=yM n a (by simp [nu]);rw [d];simp only [ik];grind};refine core (λiw r A=>?_) (λB b x k=>?_) (λB s b k=>?_) (λiw V2 C r A=>?_) hv;{rw [d] at r ⊢;rw [rO (ρ':=st.bN) λx H=>tF r H];simp only [aU];split;{rename_i i v w hi M hw;exact (RY λs N=>A s (L v M s N)).symm};rfl};{have:=vo (LF:=LF) (RF:=RF) (op:=o.op) (T:=T) (ρ:=st.bN) (bx:=st.boxes) (by rw [k];rfl);rw [d] at this;cases this};{rw [d] at k;simp only [aU] at k;split at k;{rename_i i v w hi M hw;exact L v M s (N7 k)};cases k};unfold dW;dsimp only;rw [GJ r,n];dsimp only;have:ik iw.boxes o.op (xs.flatMap SV.ids)=ik st.boxes o.op (xs.flatMap SV.ids):=by{rw [d];rfl};rw [this,j];exact A};exact hv.elim
   ·exact hv.elim
 | _=>cases hq
end
section
variable{P:Program}{T:eA}{LF RF:List Nat}{m:CM}
def ů (p:Nat->Option SV)(q:Nat->Option a_)(W D:List Nat)(st:St)(V:Ó)(K:St->Ó->Prop):St->Ó->Prop:=
 λiw V2=>V.Le V2/\(∀t,t∉D->iw.aC t=st.aC t)/\(∀s,s∉W->iw.boxes s=st.boxes s)/\K (ov p q iw) V2
def vM {bx bx':Nat->Option a_}:∀{l:zA Nat},(∀s∈l,bx' s=bx s)->l.flatMap (oQ bx')=l.flatMap (oQ bx)
 | [],_=>rfl
 | s::r,h=>by
  simp only [Ę];rw [vM λs u=>h s (by simp [u])];simp only [oQ];rw [h s ψ]
def rQ {bx bx':Nat->Option a_}:∀(n:Nat)(l:zA Nat),(∀s∈ó bx n l,bx' s=bx s)->ó bx' n l=ó bx n l
 | 0,_,_=>rfl
 | n+1,l,h=>by
  have u:∀s∈l,bx' s=bx s:=λs a=>h s (gO (n+1) l s a);simp only [ó] at h ⊢;rw [vM u];exact rQ n _ h
def EM {bx bx':Nat->Option a_}{l:zA Nat}(h:∀s∈l,bx' s=bx s):jL bx' l=jL bx l:=by unfold jL;rw [ĵ,Į,Į];constructor;{intro g s a;have:=g s a;simp only [oQ] at this ⊢;rw [h s a] at this;exact this};intro g s a;have:=g s a;simp only [oQ] at this ⊢;rw [h s a];exact this
def fF:∀{L:zA Nat} {β:Nat->Nat} {k k':(Nat->Nat)->Prop},(∀β,k β->k' β)->nS L β k->nS L β k'
 | [],_,_,_,h,g=>h _ g
 | _::_,_,_,_,h,g=>λb=>fF h (g b)
def CZ {bx bx':Nat->Option a_}{b:a_}{β:Nat->Nat}{s:Nat}:∀{r:zA Nat} {k k':Prop},(∀t∈r,bx' t=bx t)->(k->k')->ZB bx b β s r k->ZB bx' b β s r k'
 | [],_,_,_,h,g=>h g
 | t::r,k,k',u,h,g=>by
  have y:=λt a=>u t (ā _ a);simp only [ZB] at g ⊢;rw [u t ψ]
  cases hbq:Nat.beq s t with
  | true=>rw [hbq] at g;exact CZ y h g
  | false=>
   rw [hbq] at g;simp only [cond_false] at g ⊢;split at g
   ·exact λc=>CZ y h (g c)
   ·exact g
def mc {bx bx':Nat->Option a_}{β:Nat->Nat}{V:ut}:∀{L:zA Nat} {k k':Prop},(∀s∈L,bx' s=bx s)->((∀s∈L,∃b,bx s=some b/\(b.live->V.H (β s)))->k->k')->kG bx β V L k->kG bx' β V L k'
 | [],_,_,_,h,g=>h (λs z=>Å z ψ) g
 | s::r,k,k',u,h,g=>by
  have y:=λt a=>u t (ā _ a);simp only [kG] at g ⊢;rw [u s ψ];split at g
  ·rename_i b c;refine λd e=>mc y (λi=>CZ y (λf=>h (λt a=>?_) f)) (g d e)<;>grind [kT.1]
  ·exact g
def mQ {y:Option (Nat×Nat)}:∀{cs D:zA C} {K u:zA C->Prop},(∀c,K c->u c)->pz y cs D K->pz y cs D u
 | [],_,_,_,h,g=>h _ g
 | _::_,[],_,_,_,g=>g.elim
 | c::r,z::zr,K,u,h,g=>by
  simp only [pz] at g ⊢;split at g
  ·split at g
   ·split at g
    ·obtain ⟨n,c,g⟩:=g;exact ⟨n,c,mQ (λcs a=>h _ a) g⟩
    ·exact g.elim
   ·exact g.elim
  ·split at g
   ·have ⟨v,b,d⟩:=Er.split _ g;rename_i e;rw [e] at *;exact d _ (mQ (λcs a=>h _ a) b)
   ·exact mQ (λcs a=>h _ a) g
variable{p:Nat->Option SV}{q:Nat->Option a_}
def mR {z:Option (Nat×Nat)}{β:Nat->Nat}{V:ut}{W:zA Nat}:∀{L:zA Nat} {st:St} {k k':St->Prop},(∀s∈L,q s=none/\s∈W) ->(∀y,(∀t,y.aC t=st.aC t)->(∀s,s∉W->y.boxes s=st.boxes s)->k (ov p q y)->k' y)->fX T z β V L (ov p q st) k->fX T z β V L st k'
 | [],st,k,k',_,h,g=>h st (λ_=>rfl) (λ_ _=>rfl) g
 | s::r,st,k,k',D,h,g=>by
  have ⟨hqs,hsW⟩:=D s ψ;have f:∀s∈r,q s=none/\s∈W:=λs j=>D s (by simp [j])
  have a:∀b:a_,∀d:St->Prop,(∀y,d y=k y)->fX T z β V r ((ov p q st).box s b) d->fX T z β V r (st.box s b) k':=by
   intro b d e g;rw [pM hqs] at g;refine mR f (λy l o c=>h y l (λu m=>?_) (by rw [<-e];exact c)) g<;>grind [aj]
  simp only [fX] at g ⊢;rw [cO hqs] at g;split at g
  ·rename_i cs ty v;split at g;{rename_i i w;exact mQ (λn c=>⟨c.1,a _ _ (λ_=>rfl) c.2⟩) g};exact g
  ·grind
  ·grind
  ·exact g
def Bl (V:ut)(l:zA Nat):V.Le (V.ao l):=λ_ _ h=>h
def Pz (V:ut):V.Le V.shut:=λ_ _ h=>h
def rJ {V V' u:ut}{P:Prop}{b:Nat}(h:V.Le u)(y:V.Le V')(z:P->V'.w.heap.size<=b\/V'.H b):V.Le (u.shut.bq P b):=by intro x o c;have ⟨d,f⟩:=h x o c;have ⟨g,i⟩:=y x o c;refine ⟨λa=>?_,f⟩;rcases a with a|⟨j,e,-⟩;{exact d a};grind
def Uz {m:Option Nat}{d:Nat}:ia m d=d\/ia m d=d+200000:=by (cases m with|none=>exact .inl rfl|some m=>{simp only [ia,uo];grind})
def pJ {give:md}{sh:Sh}{L:zA Nat}{M:Option Nat}{d:Nat}{ety:TypeId}{β:Nat->Nat}{st:St}{V V' N:ut}{K K':St->ut->Prop}{W D:zA Nat}{r':un}(O:∀s∈L,q s=none/\s∈W)(hm:∀k,M=some k->k∈L)(hp:p d=none/\d∈D)(hq:q (ia M d)=none/\ia M d∈W)(hV:V.Le V')(Z:V.Le N)(hlv:∀s∈L,∃b,st.boxes s=some b/\(b.live->V'.H (β s)))(hK:∀s2 V2,ů p q W D st V K s2 V2->K' s2 V2)(h:cM T give sh L M d ety β (ov p q st) V' K r' N):cM T give sh L M d ety β st V' K' r' N:=by unfold cM at h ⊢;obtain ⟨g,a,u,v,y⟩:=h;have i:a≠[]->V'.w.heap.size<=g\/En M st β g:=by{intro c;refine (v c).imp id λh=>?_;unfold En at h ⊢;grind [cO]};have z:a≠[]->V'.w.heap.size<=g\/V'.H g:=by{intro c;refine (i c).imp id λh=>?_;unfold En at h;(cases M with|none=>exact h.elim|some k=>{dsimp only at h;have ⟨A,n,B⟩:=hlv k (hm k rfl);rw [n] at h;obtain ⟨cs,ty⟩:=A;cases cs<;>grind [dP,dQ,gN]})};refine ⟨g,a,u,i,Sh.s y λx r=>⟨r.1,?_⟩⟩;have C:(wB M ety (ov p q st)).box (ia M d) ⟨.aF a,ety⟩=ov p q ((wB M ety st).box (ia M d) ⟨.aF a,ety⟩):=by{(cases M with|none=>exact pM hq.1|some k=>{simp only [wB];grind [pM]})};have j:=r.2;rw [C] at j;have l:∀s∈KK M L,q s=none/\s∈W:=by{intro s f;(cases M with|none=>exact O s f|some k=>exact O s (CU.1 f).1)};refine mR l (λo E F m=>?_) j;rw [mh (λk m=>by cases m;exact hp.1)] at m;refine hK _ _ ⟨rJ Z hV z,?_,?_,m⟩;{intro t G;rw [eZ,Ã (λe=>G (by rw [e];exact hp.2)),E];cases M<;>rfl};intro s f;show o.boxes s=_;rw [F s f,aj,Ã (λe=>f (by rw [e];exact hq.2))];(cases M with|none=>rfl|some k=>{simp only [wB];rw [aj,Ã (λe=>f (by rw [e];exact (O k (hm k rfl)).2))]})
theorem Ur {bx:Nat->Option a_}{L:zA Nat}(hcl:jL bx L=true):∀k,k∈wN bx L->k∈L:=by
 intro k a;unfold wN at a;have ⟨s,b,a⟩:=ė.1 (cH.1 a);split at a
 ·rename_i cs ty d;refine fU hcl b d k ?_
  have:∀cs:zA C,k∈u_ cs->k∈cs.flatMap C.ids:=by
   intro cs
   induction cs with
   | nil=>exact λh=>nomatch h
   | cons c r u=>
    intro h;rw [Ę,ü]
    cases c<;>simp only [u_,í] at h<;>first
     | exact .inr (u h)
     | (rcases h with h|h
        ·left;simp [C.ids,h]
        ·exact .inr (u h))
  exact this cs a
 ·cases a
theorem Cq {xs:zA SV}:∀k,k∈pD xs->k∈xs.flatMap SV.ids:=by
 intro k
 induction xs with
 | nil=>exact λh=>nomatch h
 | cons x r u=>
  intro h;rw [Ę,ü];unfold pD at h;split at h
  ·rename_i heq;cases heq
  ·rename_i s n c a heq;cases heq;exact .inl h
  ·rename_i s n c a heq;cases heq;exact .inl h
  grind
def zO {bx bx':Nat->Option a_}{L:zA Nat}(h:∀s∈L,bx' s=bx s):wN bx' L=wN bx L:=by
 unfold wN;congr 1
 induction L<;>grind
def iW {st:St}{u:Option Nat}{d:Nat}(h:q (ia u d)=none):mf (ov p q st) u d=mf st u d:=by unfold mf;rw [cO h]
def zM {bx bx':Nat->Option a_}{β:Nat->Nat}{N:Nat}{L:zA Nat}(h:∀s∈L,bx' s=bx s):L.map (fk bx' β N)=L.map (fk bx β N):=
 š λs a=>by unfold fk;rw [h s a]
def Em:∀{L:zA Nat} {st:St},(∀s∈L,q s=none)->eQ (ov p q st) L 0=ov p q (eQ st L 0)
 | [],_,_=>rfl
 | s::r,st,h=>by
  show eQ ((ov p q st).box s ⟨.aF [],0⟩) r 0=ov p q (eQ (st.box s ⟨.aF [],0⟩) r 0);rw [pM (h s ψ)];exact Em λs u=>h s (by simp [u])
def yP {bx bx':Nat->Option a_}{β:Nat->Nat}{V:ut}:∀{L:zA Nat} {k k':Prop},(∀s∈L,bx' s=bx s)->(k->k')->va bx β V L k->va bx' β V L k'
 | [],_,_,_,h,g=>h g
 | s::r,k,k',u,h,g=>by
  simp only [va] at g ⊢;rw [u s ψ];split at g
  ·exact λy=>yP (λt z=>u t (ā _ z)) h (g y)
  ·exact g.elim
def kY {f:FuncId}{xs:zA SV}{ty:TypeId}{dst:Option Nat}{st:St}{V:ut}{K:St->ut->Prop}{W D:zA Nat}(hm:m=.none\/((m=.ao\/m=.give)/\(∀s∈ó (ov p q st).boxes 3 (ø (xs.flatMap SV.ids)),q s=none/\s∈W)/\∀k,dst=some k->∀mm,q (ia mm k)=none/\ia mm k∈W))(hd:∀k,dst=some k->p k=none/\k∈D){K':St->ut->Prop}(hK:∀s2 V2,ů p q W D st V K s2 V2->K' s2 V2)(hv:im P T m f xs ty dst (ov p q st) V K):im P T m f xs ty dst st V K':=by
 have A:∀(n:St)(x:SV),(∀t,n.aC t=st.aC t)->∀t,t∉D->(n.put dst x).aC t=st.aC t:=by intro n x h t c;(cases dst with|none=>exact h t|some d=>{rw [eZ,Ã (λe=>c (by rw [e];exact (hd d rfl).2))];exact h t})
 have G:∀(n:St)(x:SV),(n.put dst x).boxes=n.boxes:=by intro n x;cases dst<;>rfl
 unfold im at hv ⊢;split at hv
 ·exact hv.elim
 ·rename_i S a2
  have H:∀L,ó (ov p q st).boxes 3 (ø (xs.flatMap SV.ids))=L->(∀s∈L,q s=none)->ó st.boxes 3 (ø (xs.flatMap SV.ids))=L:=by intro L hL X;rw [<-hL];exact rQ 3 _ λs y=>(cO (X s (by rw [<-hL];exact y))).symm
  have Zi:∀s∈xs.flatMap SV.ids,s∈ó (ov p q st).boxes 3 (ø (xs.flatMap SV.ids)):=λs y=>gO 3 _ s (cH.2 y);generalize hr:ó (ov p q st).boxes 3 (ø (xs.flatMap SV.ids))=L at hv hm Zi
  cases L with
  | nil=>
   rw [H _ hr (λs y=>nomatch y)]
   have plain:(∀g:ut,V.Le g->aa P f (aI (λ_=>0) xs) g λr B=>S.ex λx=>r=x.den (λ_=>0)/\K ((ov p q st).put dst x) B) ->
     ∀g:ut,V.Le g->aa P f (aI (λ_=>0) xs) g λr B=>S.ex λx=>r=x.den (λ_=>0)/\K' (st.put dst x) B:=by
    intro hv g b;refine (hv g b).s λr B hle l=>Sh.s l λx C=>⟨C.1,?_⟩;have z:=C.2;rw [mh (λk l=>(hd k l).1)] at z;exact hK _ _ ⟨b.m hle,A st x λ_=>rfl,λs _=>by rw [G],z⟩
   rcases hm with rfl|⟨rfl|rfl,-,i⟩
   ·exact plain hv
   ·exact plain hv
   ·dsimp only at hv ⊢;split at hv;{rename_i d o a3;rw [iW (i d rfl Option.none).1] at hv;split at hv;{exact hv.elim};rename_i u;intro g b;refine (hv g b).s λr B hle l=>?_;exact pJ (W:=W) (D:=D) (λs y=>Å y ψ) (λk l=>by cases l) (hd d rfl) (i d rfl Option.none) b (b.m hle) (λs y=>Å y ψ) hK l};{exact plain hv};exact hv.elim
  | cons s r=>
   dsimp only at hv;split at hv
   ·exact hv.elim
   ·rename_i J
    have ao:m=.ao\/m=.give->(∀t∈s::r,q t=none/\t∈W)->(∀k,dst=some k->∀mm,q (ia mm k)=none/\ia mm k∈W) ->
      ∀{give:md} {mm:Option Nat} {d:Nat} {o:TypeId},dst=some d->(∀k,mm=some k->k∈s::r) ->
      (∀g:ut,V.Le g->nS (s::r) (λ_=>0) λβ=>kG (ov p q st).boxes β g (s::r) (aa P f (aI β xs) (g.ao ((s::r).map (fk (ov p q st).boxes β g.w.heap.size))) (cM T give S (s::r) mm d o β (ov p q st) g K))) ->
      ∀g:ut,V.Le g->nS (s::r) (λ_=>0) λβ=>kG st.boxes β g (s::r) (aa P f (aI β xs) (g.ao ((s::r).map (fk st.boxes β g.w.heap.size))) (cM T give S (s::r) mm d o β st g K')):=by
     intro _ a i give mm d o E M hv g b;have F:∀t∈s::r,st.boxes t=(ov p q st).boxes t:=λt c=>(cO (a t c).1).symm;refine fF (λβ I=>?_) (hv g b);rw [zM (bx:=(ov p q st).boxes) F];refine mc (bx:=(ov p q st).boxes) F (λhH v=>?_) I;refine v.s λY B hle l=>?_;exact pJ a M (hd d E) (i d E mm) b ((b.m (Bl g _)).m hle) (λt c=>by rw [F t c];exact hH t c) hK l
    have base:m=.ao\/m=.give->(∀t∈s::r,q t=none/\t∈W)/\(∀k,dst=some k->∀mm,q (ia mm k)=none/\ia mm k∈W):=by intro h;rcases hm with rfl|⟨-,N,z⟩;{rcases h with h|h<;>cases h};exact ⟨N,z⟩
    have O:(∀t∈s::r,q t=none/\t∈W)->jL st.boxes (s::r)=true:=λa=>by rw [EM (bx:=(ov p q st).boxes) (λt c=>(cO (a t c).1).symm)];exact J
    split at hv
    ·exact hv.elim
    ·exact hv.elim
    ·have ⟨a,i⟩:=base (.inr rfl);rw [H _ hr (λt c=>(a t c).1)];dsimp only;rw [O a];dsimp only;have Z:=zO (bx:=(ov p q st).boxes) (bx':=st.boxes) (L:=s::r) (λt c=>(cO (a t c).1).symm);rw [Z];split at hv;{rename_i d o N z h3;rw [iW (i d rfl _).1] at hv;split at hv;{exact hv.elim};rename_i u;exact ao (.inr rfl) a i rfl (λk l=>by cases l) hv};{rename_i d o k N z h3;have Q:=Zi k (Cq k (by rw [z];simp));have a0:IJ (ov p q st).boxes k o=IJ st.boxes k o:=by{unfold IJ;rw [cO (a k Q).1]};rw [a0] at hv;split at hv;{rw [iW (i d rfl _).1] at hv;split at hv;{exact hv.elim};rename_i u;exact ao (.inr rfl) a i rfl (λj hj=>by cases hj;exact Q) hv};rw [Em (λt c=>(a t c).1),iW (i d rfl _).1] at hv;split at hv;{exact hv.elim};rename_i u;split at hv;{exact hv.elim};intro g b;refine fF (λβ I=>?_) (hv g b);refine yP (bx:=(ov p q st).boxes) (λt c=>(cO (a t c).1).symm) (λv=>?_) I;refine v.s λY B hle l=>?_;exact pJ (W:=W) (D:=D) (st:=eQ st (s::r) 0) (λs y=>Å y ψ) (λk l=>by cases l) (hd d rfl) (i d rfl Option.none) b (b.m hle) (λs y=>Å y ψ) (λs2 V2 U=>hK s2 V2 ⟨U.1,λt c=>(U.2.1 t c).m (by rw [ka]),λt c=>(U.2.2.1 t c).m (by rw [bz,Ã λh=>c (a t h).2]),U.2.2.2⟩) l};{split at hv;{exact hv.elim};rw [Em (λt c=>(a t c).1)] at hv;intro g b;refine fF (λβ I=>?_) (hv g b);refine yP (bx:=(ov p q st).boxes) (λt c=>(cO (a t c).1).symm) (λv=>?_) I;refine v.s λY B hle l=>Sh.s l λx C=>⟨C.1,?_⟩;have z:=C.2;rw [mh (λk l=>(hd k l).1)] at z;exact hK _ _ ⟨b.m hle,A (eQ st (s::r) 0) x λt=>by rw [ka],λt c=>by rw [G,bz,Ã λh=>c (a t h).2],z⟩};exact hv.elim
    ·have ⟨a,i⟩:=base (.inl rfl);rw [H _ hr (λt c=>(a t c).1)];dsimp only;rw [O a];dsimp only;have F:∀t∈s::r,st.boxes t=(ov p q st).boxes t:=λt c=>(cO (a t c).1).symm;rw [(zO (bx:=(ov p q st).boxes) (bx':=st.boxes) (L:=s::r) F)];split at hv;{intro g b;refine fF (λβ I=>?_) (hv g b);rw [zM (bx:=(ov p q st).boxes) F];refine mc (bx:=(ov p q st).boxes) F (λ_ v=>?_) I;refine v.s λY B hle l=>Sh.s l λx C=>⟨C.1,?_⟩;refine mR a (λn N z l=>?_) C.2;rw [mh (λk l=>(hd k l).1)] at l;exact hK _ _ ⟨((b.m (Bl g _)).m hle).m (Pz _),A n x N,λt c=>by rw [G];exact z t c,l⟩};{rename_i k l;have R:=Ur J k (by rw [l];simp);have a1:nU st.boxes k=nU (ov p q st).boxes k:=by{unfold nU;rw [F k R]};rw [a1];split at hv;{rename_i d o a4;rw [iW (i d rfl _).1] at hv;split at hv;{exact hv.elim};rename_i u;exact ao (.inl rfl) a i rfl (λj hj=>by cases hj;exact R) hv};exact hv.elim};exact hv.elim
    grind
def Ll {bx:Nat->Option a_}:∀(n:Nat) {l l':zA Nat},(∀x∈l,x∈l')->∀x∈ó bx n l,x∈ó bx n l'
 | 0,_,_,h,x,u=>h x u
 | n+1,l,l',h,x,u=>by
  simp only [ó] at u ⊢;refine Ll n (λy z=>?_) x u<;>grind [cH]
def sI {f:FuncId}{xs:zA SV}{ty:TypeId}{dst:Option Nat}{st:St}{V:ut}{K:St->ut->Prop}{W D:zA Nat}(hm:m=.none\/((m=.ao\/m=.give)/\(∀s∈ó (ov p q st).boxes 3 (ø (xs.flatMap SV.ids)),q s=none/\s∈W)/\∀k,dst=some k->∀y,q (ia y k)=none/\ia y k∈W))(z:∀k,dst=some k->p k=none/\k∈D){F:St->ut->Prop}(E:∀s2 V2,ů p q W D st V K s2 V2->F s2 V2)(u:mz P T m f xs ty dst (ov p q st) V K):mz P T m f xs ty dst st V F:=by have a:=hm;(cases m with|ao=>{obtain ⟨d,g⟩:(∀s∈ó (ov p q st).boxes 3 (ø (xs.flatMap SV.ids)),q s=none/\s∈W)/\∀k,dst=some k->∀y,q (ia y k)=none/\ia y k∈W:=χ;unfold mz at u ⊢;dsimp only at u ⊢;rw [xg (bx:=st.boxes) (bx':=(ov p q st).boxes) (λs b=>cO (d s (gO 3 _ s (cH.2 b))).1)] at u;split at u;{rename_i j c h e;exact ⟨λhe=>⟨(u.1 he).1,kY (.inr ⟨.inl rfl,λs b=>d s (Ll 3 (λx i=>cH.2 (Dy e x (cH.1 i))) s b),g⟩) z E (u.1 he).2⟩,λhe=>kY a z E (u.2 he)⟩};exact kY a z E u}|_=>exact kY a z E u)
theorem Io {u:Nat->Option SV}{y:Nat->Option a_}{st:St}(z:∀t,p t=none\/u t=none)(D:∀t,q t=none\/y t=none):ov p q (ov u y st)=ov u y (ov p q st):=by unfold ov;grind
def Hr:Q->Option Nat
 | .app old _ _ _ _ _ _ _ _=>old
 | .yJ s _ _ _ _ _ _ _=>some s
 | _=>none
def PW (T:eA)(bx:Nat->Option a_)(l:Option (List SV))(ts:List TypeId):Q:=
 match l,ts with
 | some [b,x],[t,t']=>match aH T t,aH T t' with
  | some i,some u=>match i.k,u.k with
   | .slice e,.slice _=>match aH T e with
    | some y=>c_ bx e y b x
    | none=>.fail
   | _,_=>.fail
  | _,_=>.fail
 | _,_=>.fail
def Hs (bx:Nat->Option a_)(sz:Nat)(x:SV):Option (OA×Nat ⊕ List Value):=
 match x with
 | .c (.v (.slice a k _))=>some (.inl (a,k))
 | .c (.nG s o k _)=>match bx s with
  | some ⟨.row ws,_⟩=>some (.inr (aw ws o (k*sz)))
  | _=>match gG bx s with
   | some ws=>if Nat.ble (o+k*sz) ws.length then some (.inr ((ws.drop o).take (k*sz))) else none
   | none=>none
 | .c (.dT s k c)=>match bx s with
  | some ⟨.aF ws,_⟩=>some (.inr (rV ws k c sz))
  | _=>none
 | _=>none
def O2 (bx:Nat->Option a_)(e:TypeId)(u:TI)(b:SV)(src:OA×Nat ⊕ List Value):Q:=
 match b with
 | .c (.v (.slice a n c))=>.app none a [] n c src u.size u.bytes e
 | .c (.nG s 0 n c)=>match gG bx s,nU bx s with
  | some vs,some ty=>if Nat.beq ty e then .app (some s) none vs n c src u.size u.bytes e else .fail
  | _,_=>.fail
 | .c (.dT s n c)=>match bx s with
  | some ⟨.aF vs,ty⟩=>if Nat.beq ty e then .yJ s vs n c src u.size u.bytes e else .fail
  | _=>.fail
 | _=>.fail
def De {bx:Nat->Option a_}{e:TypeId}{u:TI}{b x:SV}:c_ bx e u b x=match mX u.zero with
  | none=>.fail
  | some y=>if Nat.beq u.bytes 0||Nat.beq u.size 0||!(Nat.beq u.size y.length) then .fail else match Hs bx u.size x with
   | none=>.fail
   | some src=>O2 bx e u b src:=rfl
def Qx {bx bx':Nat->Option a_}{sz:Nat}{x:SV}:(∀s∈x.ids,bx' s=bx s)->Hs bx sz x=Hs bx' sz x:=by unfold Hs;split;{exact λ_=>rfl};{intro h;unfold gG;rw [h _ (by simp [SV.ids,C.ids])]};{intro h;rw [h _ (by simp [SV.ids,C.ids])]};exact λ_=>rfl
theorem SK {bx bx':Nat->Option a_}{e:TypeId}{u:TI}{b:SV}{src:OA×Nat ⊕ zA un}:(∀s∈b.ids,bx' s=bx s)->O2 bx e u b src=O2 bx' e u b src:=by unfold O2;split;{exact λ_=>rfl};{intro h;unfold gG nU;rw [h _ (by simp [SV.ids,C.ids])]};{intro h;rw [h _ (by simp [SV.ids,C.ids])]};exact λ_=>rfl
def NX {bx bx':Nat->Option a_}{e:TypeId}{u:TI}{b x:SV}(h:∀s∈b.ids++x.ids,bx' s=bx s):c_ bx e u b x=c_ bx' e u b x:=by rw [De,De,Qx λs a=>h s (ŝ _ a)];grind [SK]
def Ld {bx:Nat->Option a_}{e:TypeId}{u:TI}{b x:SV}:∀s,Hr (c_ bx e u b x)=some s->s∈b.ids:=by intro s h;unfold c_ at h;split at h;{cases h};split at h;{cases h};dsimp only at h;split at h;{cases h};split at h;{cases h};{split at h;{split at h;{cases h;simp [SV.ids,C.ids]};cases h};cases h};{split at h;{split at h;{cases h;simp [SV.ids,C.ids]};cases h};cases h};cases h
def Yh {bx bx':Nat->Option a_}{ys:zA SV}{ts:zA TypeId}{R:zA Nat}(h:∀s∈ys.flatMap SV.ids,bx' s=bx s)(u:∀s∈ys.flatMap SV.ids,s∈R):PW T bx (some ys) ts=PW T bx' (some ys) ts/\∀s,Hr (PW T bx (some ys) ts)=some s->s∈R:=by unfold PW;split;{rename_i b x t d c;cases c;split;{split;{split;{exact ⟨NX λs a=>h s (by simpa using a),λs a=>u s (by simp [Ld s a])⟩};exact ⟨rfl,λs a=>nomatch a⟩};exact ⟨rfl,λs a=>nomatch a⟩};exact ⟨rfl,λs a=>nomatch a⟩};exact ⟨rfl,λs a=>nomatch a⟩
theorem RM {bx:Nat->Option a_}{e:TypeId}{u:TI}{b x:SV}:eU (c_ bx e u b x)=6\/c_ bx e u b x=.fail:=by unfold c_;split;{exact .inr rfl};split;{exact .inr rfl};dsimp only;split;{exact .inr rfl};(split<;>(try split)<;>(try split)<;>first|exact .inl rfl|exact .inr rfl)
def U6 {ρ:Operand->Option SV}{bx:Nat->Option a_}{args:Array Operand}{ts:Array TypeId}:eU (aU T ρ bx (.call ⟨.builtin .append,args,ts⟩))=6\/aU T ρ bx (.call ⟨.builtin .append,args,ts⟩)=.fail:=by simp only [aU];split<;>grind [RM]
def I2 {N:Q}{dst:Option Nat}{st:St}{V:ut}{K O:St->ut->Prop}{W D:zA Nat}(M:eU N=6\/N=.fail)(ho:∀s,Hr N=some s->q s=none/\s∈W)(hd:∀k,dst=some k->(p k=none/\k∈D)/\∀s,q (uo s k)=none/\uo s k∈W)(hd0:∀k,dst=some k->q k=none/\k∈W)(Z:∀s2 V2,ů p q W D st V K s2 V2->O s2 V2)(h:At N dst (ov p q st) V K):At N dst st V O:=by (cases N with|yJ s vs n c x size bytes ty=>{simp only [At] at h ⊢;(cases dst with|none=>exact h.elim|some d=>{dsimp only at h ⊢;have ⟨⟨u,v⟩,r⟩:=hd d rfl;have ⟨B,w⟩:=ho s rfl;have core:∀k xs,zN s vs n c size bytes ty d (ov p q st) V K k xs->zN s vs n c size bytes ty d st V O k xs:=by{rintro k xs ⟨a,f,g,l,j,i⟩;refine ⟨a,f,g,l,j,?_⟩;rw [cO (r s).1] at i;split at i;{exact i.elim};intro spare y z A;have:=i spare y z A;rw [pM B,pM (r s).1,mh (λk m=>by cases m;exact u)] at this;refine Z _ _ ⟨Ó.Le.refl V,?_,?_,this⟩;{intro t M;rw [eZ,Ã (λe=>M (by rw [e];exact v))];rfl};intro t M;show ((st.box s _).box _ _).boxes t=_;grind [aj]};grind})}|app old ba vs n c x size bytes ty=>{simp only [At] at h ⊢;(cases dst with|none=>exact h.elim|some d=>{dsimp only at h ⊢;have ⟨⟨u,v⟩,r⟩:=hd d rfl;(cases old with|some s=>{dsimp only at h ⊢;have ⟨B,w⟩:=ho s rfl;have core:∀k xs,JH s vs n c size bytes ty d (ov p q st) V K k xs->JH s vs n c size bytes ty d st V O k xs:=by{rintro k xs ⟨a,f,g,l,j,i⟩;refine ⟨a,f,g,l,j,?_⟩;rw [cO (r s).1] at i;split at i;{exact i.elim};intro b J spare y z A;have:=i b J spare y z A;rw [pM B,pM (r s).1,mh (λk m=>by cases m;exact u)] at this;refine Z _ _ ⟨Ó.Le.refl V,?_,?_,this⟩;{intro t M;rw [eZ,Ã (λe=>M (by rw [e];exact v))];rfl};intro t M;show ((st.box s _).box _ _).boxes t=_;rw [aj,Ã (λe=>M (by rw [e];exact (r s).2)),aj,Ã (λe=>M (by rw [e];exact w))]};(cases x with|inr xs=>exact core _ _ h|inl ak=>{obtain ⟨xs,a,f,g⟩:=h;exact ⟨xs,a,f,core _ _ g⟩})}|none=>{dsimp only at h ⊢;obtain ⟨C,I⟩:=hd0 d rfl;obtain ⟨o,z,A,E,F,h⟩:=h;have core:∀k xs,JI o n c size bytes ty d (ov p q st) V K k xs->JI o n c size bytes ty d st V O k xs:=by{rintro k xs ⟨a,f,g,l,j⟩;refine ⟨a,f,g,l,?_⟩;rw [cO C] at j;split at j;{exact j.elim};intro spare y G H;have:=j spare y G H;rw [pM C,mh (λk m=>by cases m;exact u)] at this;refine Z _ _ ⟨Ó.Le.refl V,?_,?_,this⟩;{intro t M;rw [eZ,Ã (λe=>M (by rw [e];exact v))];rfl};intro t M;show (st.box d _).boxes t=_;grind [aj]};refine ⟨o,z,A,E,F,?_⟩;(cases x with|inr xs=>exact core _ _ h|inl ak=>{obtain ⟨xs,a,f,g,l⟩:=h;refine ⟨xs,a,f,λe=>?_,λe=>core _ _ (l e)⟩;have:=g e;rw [mh (λk m=>by cases m;exact u)] at this;refine Z _ _ ⟨Ó.Le.refl V,?_,λt M=>rfl,this⟩;intro t M;rw [eZ,Ã (λe=>M (by rw [e];exact v))]})})})}|fail=>exact h.elim|_=>{rcases M with M|M<;>cases M})
def xW {h:þ}{o:Oper}{st:St}{V:ut}{K:St->ut->Prop}{R W:zA Nat}(hm:rP (bI LF RF o.op)=true\/(bI LF RF o.op=.call/\m=.none)\/((bI LF RF o.op=.oA/\m=.ao)\/(bI LF RF o.op=.give/\m=.give)\/bI LF RF o.op=.app))(hrw:wX (bI LF RF o.op) h (fV o)=some (R,W))(hp:∀t,t∈ku o.op\/t∈fV o->p t=none)(hq:∀s∈R,q s=none)(hqW:∀s∈W,q s=none){K':St->ut->Prop}(hK:∀s2 V2,ů p q W (fV o) st V K s2 V2->K' s2 V2)(hv:dW P T m h o (ov p q st) V K):dW P T m h o st V K':=by
 have ND:∀t∈ku o.op,st.aC t=(ov p q st).aC t:=λt ht=>by simp [ov,hp t (.inl ht)]
 rcases hm with hm|hm
 ·have ⟨p2,q2,X⟩:=tI hm hrw hv;refine X.again st V _ (Ó.Le.refl V) ND (λs u=>(cO (hq s u)).symm) ?_;refine hK _ _ ⟨Ó.Le.refl V,λt ht=>by simp [ov,X.pd t ht],λs u=>by simp [ov,X.qd s u],?_⟩;rw [Io];{exact X.next};{intro t;by_cases h:t∈fV o;{exact .inl (hp t (.inr h))};exact .inr (X.pd t h)};intro s;by_cases h:s∈W;{exact .inl (hqW s h)};exact .inr (X.qd s h)
 ·
  have j:∀(x:Operand),x∈o.op.operands.toList->(ov p q st).bN x=st.bN x:=λx J=>Yc λt e=>hp t (.inl (CT J e))
  have n:∀k,o.dst=some k->p k=none/\k∈fV o:=λk E=>by have:k∈fV o:=by{simp [fV,E]};exact ⟨hp k (.inr this),this⟩
  have body:(¬bI LF RF o.op=.app)->∀(hh:∀xs f ss Y_ args z,o.op=.call ⟨.value Y_,args,z⟩->cS (ov p q st).bN args.toList=some xs->(ov p q st).bN Y_=some (.c (.uO f ss)) ->
    m=.none\/((m=.ao\/m=.give)/\(∀s∈ó (ov p q st).boxes 3 (ø ((xs++Cc ss).flatMap SV.ids)),q s=none/\s∈W)/\∀k,o.dst=some k->∀F,q (ia F k)=none/\ia F k∈W)),
    ew P T m o (ov p q st) V K->ew P T m o st V K':=by
   intro a hh hv;unfold ew at hv ⊢;split at hv
   ·rename_i Y_ args z g;have e1:cS (ov p q st).bN args.toList=cS st.bN args.toList:=fZ _ λx J=>j x (by rw [g];simp [Op.operands,Call.operands];exact .inr (by simpa using J));have e2:=j Y_ (by rw [g];simp [Op.operands,Call.operands]);split at hv;{rename_i xs i;split at hv;{rename_i f ss B;have L:=hh _ _ _ _ _ _ g i B;rw [e1] at i;rw [e2] at B;simp only [i,B];exact sI L n hK hv};{rename_i f vs B;rw [e1] at i;rw [e2] at B;simp only [i,B];exact sI (.inl rfl) n hK hv};exact hv.elim};exact hv.elim
   ·rename_i recv name args z g;have a3:m=.none:=by{rw [g] at hm;rcases hm with ⟨-,h⟩|⟨h,-⟩|⟨h,-⟩|h;{exact h};{cases h};{cases h};cases h};have e1:cS (ov p q st).bN args.toList=cS st.bN args.toList:=fZ _ λx J=>j x (by rw [g];simp [Op.operands,Call.operands];exact .inr (by simpa using J));split at hv;{rename_i xs i;split at hv;{rename_i t v B;split at hv;{rename_i f T3;rw [e1] at i;rw [(j recv (by rw [g];simp [Op.operands,Call.operands]))] at B;simp only [i,B,T3];exact sI (.inl a3) n hK hv};exact hv.elim};exact hv.elim};exact hv.elim
   ·rename_i a0 G;exfalso;have M:bI LF RF o.op=.call\/bI LF RF o.op=.oA\/bI LF RF o.op=.give:=by{rcases hm with ⟨h,-⟩|⟨h,-⟩|⟨h,-⟩|h;{exact .inl h};{exact .inr (.inl h)};{exact .inr (.inr h)};exact Å h a};clear hm a hh;generalize g:o.op=op at M a0 G;(cases op with|call c=>{obtain ⟨Pb,args,z⟩:=c;(cases Pb with|builtin b=>{cases b<;>rcases M with h|h|h<;>cases h}|value f=>exact a0 f args z rfl|invoke r nm=>exact G r nm args z rfl)}|_=>{rcases M with h|h|h<;>cases h})
  have N:∀l:zA Nat,W=l++fV o++(fV o).map (·+ 200000)->∀k,o.dst=some k->∀F,q (ia F k)=none/\ia F k∈W:=by intro l Y k E F;have:ia F k∈W:=by{rw [Y];rcases Uz (m:=F) (d:=k) with h|h<;>rw [h]<;>simp [((n k E).2)]};exact ⟨hqW _ this,this⟩
  have own:∀l:zA Nat,h=.own l->R=l->W=l++fV o++(fV o).map (·+ 200000)->(bI LF RF o.op=.oA\/bI LF RF o.op=.give\/bI LF RF o.op=.app)->(¬bI LF RF o.op=.app->m=.ao\/m=.give)->dW P T m h o st V K':=by
   intro l hh hR Y a5 L;subst hh hR;unfold dW at hv ⊢;dsimp only at hv ⊢;split at hv
   ·rename_i ys w;split at hv
    ·rename_i H;have e0:=fZ _ λx J=>j x (CS J);rw [<-e0,w];dsimp only;have D:=Dz.1 H
     have e3:ik st.boxes o.op (ys.flatMap SV.ids)=ik (ov p q st).boxes o.op (ys.flatMap SV.ids):=by revert D;unfold ik;split;{intro D;exact rQ 3 _ λs u=>(cO (hq s (D s u))).symm};exact λ_=>rfl
     rw [e3,H];dsimp only;have a4:∀s∈R,s∈W:=λs u=>by rw [Y];simp [u]
     by_cases a:bI LF RF o.op=.app
     ·
      have g:∃args z,o.op=.call ⟨.builtin .append,args,z⟩:=by
       generalize o.op=op at a
       cases op with
       | call c=>
        obtain ⟨Pb,args,z⟩:=c
        cases Pb with
        | builtin b=>cases b<;>first|exact ⟨args,z,rfl⟩|cases a
        | value f=>cases f with
         | func f=>simp only [bI] at a;split at a<;>(try split at a)<;>(try split at a)<;>(try split at a)<;>cases a
         | _=>cases a
        | _=>cases a
       | _=>cases a
      obtain ⟨args,z,g⟩:=g
      have e4:aU T st.bN st.boxes o.op=aU T (ov p q st).bN (ov p q st).boxes o.op/\∀s,Hr (aU T st.bN st.boxes o.op)=some s->s∈R:=by have e5:cS (ov p q st).bN args.toList=cS st.bN args.toList:=by{rw [g] at e0;exact e0};have a1:cS st.bN args.toList=some ys:=by{rw [g] at w;rw [<-e5];exact w};have I:∀s∈ys.flatMap SV.ids,s∈R:=by{intro s u;refine D s ?_;rw [g];simp only [ik];exact gO 3 _ s (cH.2 u)};rw [g];simp only [aU];rw [e5,a1];exact Yh (λs u=>by rw [cO (hq s (I s u))]) I
      have O:At (aU T (ov p q st).bN (ov p q st).boxes o.op) o.dst (ov p q st) V K:=by unfold ew at hv;rw [g] at hv ⊢;exact hv
      have Q:At (aU T st.bN st.boxes o.op) o.dst st V K'->ew P T m o st V K':=by intro h;unfold ew;rw [g] at h ⊢;exact h
      rw [<-e4.1] at O;refine Q ?_
      have a2:∀Z,aU T st.bN st.boxes o.op=Z->eU Z=6\/Z=.fail:=by intro Z hQ;rw [<-hQ,g];exact U6
      generalize hQ0:aU T st.bN st.boxes o.op=Z at O e4
      exact I2 (a2 Z hQ0) (λs u=>⟨hq s (e4.2 s u),a4 s (e4.2 s u)⟩) (λk E=>⟨n k E,λs=>by
       have:=N R Y k E (some s);exact this⟩) (λk E=>N R Y k E Option.none) hK O
     ·have S:=L a;refine body a (λxs f ss Y_ args z g i B=>.inr ⟨S,λs u=>?_,N R Y⟩) hv
      have:s∈R:=by
       apply D;rw [g] at w ⊢;simp only [ik]
       have hy:ys.flatMap SV.ids=(xs++Cc ss).flatMap SV.ids:=by
        have:∀(l:zA Operand)(xs:zA SV)(x:Operand)(v:SV),cS (ov p q st).bN l=some xs->(ov p q st).bN x=some v->cS (ov p q st).bN (l++[x])=some (xs++[v]):=by
         intro l
         induction l with
         | nil=>intro xs x v U h2;simp only [cS,ą] at U;subst U;simp [cS,h2]
         | cons o r ih=>
          intro xs x v U h2;simp only [cS] at U;split at U
          ·rename_i y l' h3 h4;cases U;simp only [Qc2,cS,h3,ih _ x v h4 h2]
          ·cases U
        simp only [nu] at w;rw [this _ _ _ _ i B] at w;cases w;simp only [Qn5];congr 1;simp [Cc,SV.ids,C.ids,List.flatMap_map]
       grind
      grind
    ·exact hv.elim
   ·exact hv.elim
  rcases hm with ⟨A,hm⟩|⟨A,hm⟩|⟨A,hm⟩|A
  ·rw [A] at hrw;(cases h with|own l=>{cases hrw}|free=>{exact body (by rw [A];exact λh=>by cases h) (λ_ _ _ _ _ _ _ _ _=>.inl hm) hv})
  ·rw [A] at hrw;(cases h with|free=>{cases hrw}|own l=>{simp only [wX,ą,Š] at hrw;exact own l rfl hrw.1.symm hrw.2.symm (.inl A) (λ_=>.inl hm)})
  ·rw [A] at hrw;(cases h with|free=>{cases hrw}|own l=>{simp only [wX,ą,Š] at hrw;exact own l rfl hrw.1.symm hrw.2.symm (.inr (.inl A)) (λ_=>.inr hm)})
  ·rw [A] at hrw;(cases h with|free=>{cases hrw}|own l=>{simp only [wX,ą,Š] at hrw;exact own l rfl hrw.1.symm hrw.2.symm (.inr (.inr A)) (λh=>Å A h)})
end
section
variable{P:Program}{T:eA}{LF RF:List Nat}
def Eu (ops:Array Oper)(o:Oper)(st:St)(k:St->Bool->Prop):Prop:=
 match o.guard with
 | none=>k st true
 | some (j,b)=>match (ops[j]?).bind (·.dst) with
  | none=>False
  | some g=>match st.aC g with
   | some (.c .tt)=>k st b
   | some (.c .ff)=>k st (!b)
   | some (.c (.v (.bool c)))=>(c=true->k (st.put (some g) (.c .tt)) b)/\(c=false->k (st.put (some g) (.c .ff)) (!b))
   | some (.xP _)=>k st false
   | _=>False
def qg (P:Program)(T:eA)(m:CM)(h:þ)(o:Oper)(V:Ó)(K:St->Ó->Prop)(st:St)(w:Bool):Prop:=
 match w with
 | true=>dW P T m h o st V K
 | false=>K (st.put o.dst my) V
def I1 {m:CM}{h:þ}{ops:Array Oper}{o:Oper}{st:St}{V:ut}{K:St->ut->Prop}:xw P T m h ops o st V K↔Eu ops o st (qg P T m h o V K):=by unfold xw Eu;(cases y:o.guard with|none=>rfl|some u=>{obtain ⟨j,b⟩:=u;dsimp only;(cases z:(ops[j]?).bind (·.dst) with|none=>rfl|some g=>{dsimp only;split<;>simp_all<;>cases b<;>rfl})})
def uq:Nat->Option a_:=λ_=>none
structure GOut (ops:Array Oper) (o:Oper) (st:St) (k:St->Bool->Prop) (p:Nat->Option SV) (w:Bool):Prop where
 pd:∀t,t∉gU ops o->p t=none
 next:k (ov p uq st) w
 again:∀(iw:St)(k2:St->Bool->Prop),(∀t∈gU ops o,iw.aC t=st.aC t)->k2 (ov p uq iw) w->Eu ops o iw k2
def iF {ops:Array Oper}{o:Oper}{st:St}{k:St->md->Prop}(h:Eu ops o st k):∃p w,GOut ops o st k p w:=by unfold Eu at h;split at h;{rename_i i;exact ⟨λ_=>none,true,λ_ _=>rfl,h,λiw n _ d=>by unfold Eu;rw [i];exact d⟩};rename_i j b i;split at h;{exact h.elim};rename_i g m;have a:gU ops o=[g]:=by{simp only [gU,i,m]};split at h;{rename_i l;exact ⟨λ_=>none,b,λ_ _=>rfl,h,λiw n f d=>by unfold Eu;simp only [i,m,f g (by simp [a]),l];exact d⟩};{rename_i l;exact ⟨λ_=>none,!b,λ_ _=>rfl,h,λiw n f d=>by unfold Eu;simp only [i,m,f g (by simp [a]),l];exact d⟩};{rename_i c l;(cases c with|true=>{refine ⟨one (some g) (.c .tt),b,λt q=>fD (by intro e;apply q;rw [a];simpa using e.symm),?_,λiw n f d=>?_⟩;{have:=h.1 rfl;rw [gV] at this;exact this};unfold Eu;simp only [i,m,f g (by simp [a]),l];exact ⟨λ_=>by rw [gV];exact d,λe=>by cases e⟩}|false=>{refine ⟨one (some g) (.c .ff),!b,λt q=>fD (by intro e;apply q;rw [a];simpa using e.symm),?_,λiw n f d=>?_⟩;{have:=h.2 rfl;rw [gV] at this;exact this};unfold Eu;simp only [i,m,f g (by simp [a]),l];exact ⟨λe=>(by cases e),λ_=>by rw [gV];exact d⟩})};{rename_i xs l;exact ⟨λ_=>none,false,λ_ _=>rfl,h,λiw n f d=>by unfold Eu;simp only [i,m,f g (by simp [a]),l];exact d⟩};exact h.elim
def sJ {ops:Array Oper}{o:Oper}{st:St}{k k':St->md->Prop}(u:∀s w,k s w->k' s w)(h:Eu ops o st k):Eu ops o st k':=by have ⟨p,w,a⟩:=iF h;grind [a.again,a.next]
def put_comm {st:St}{d u:Option Nat}{x y:SV}(h:∀k,d=some k->u≠some k):(st.put d x).put u y=(st.put u y).put d x:=by (cases d with|none=>rfl|some d=>{(cases u with|none=>rfl|some u=>{have a:d≠u:=λe=>h d rfl (by rw [e]);simp only [St.put];grind [iu]})})
def Ns {ops:Array Oper}{D E:Oper}{st:St}{F:St->md->md->Prop}(h:Eu ops D st λs M=>Eu ops E s λs' N=>F s' M N):Eu ops E st λs N=>Eu ops D s λs' M=>F s' M N:=by by_cases f:∃g,gU ops D=[g]/\gU ops E=[g];{obtain ⟨g,a,b⟩:=f;unfold gU at a b;split at a;{cases a};rename_i u v i;split at a;{rename_i w j;cases a;split at b;{cases b};rename_i x y k;split at b;{rename_i z l;cases b;unfold Eu at h ⊢;simp only [i,k,j,l] at h ⊢;split at h;{rename_i n;exact h};{rename_i n;exact h};{grind [eZ]};{rename_i xs n;exact h};exact h.elim};cases b};cases a};have ⟨q,M,d⟩:=iF h;have ⟨r,N,e⟩:=iF d.next;have p:∀o:Oper,gU ops o=[]\/∃g,gU ops o=[g]:=by{intro o;unfold gU;grind};have c:∀t,t∈gU ops D->t∉gU ops E:=χ;refine e.again st _ (λt m=>?_) (d.again _ _ (λt m=>?_) ?_);{show st.aC t=(ov q uq st).aC t;simp [ov,d.pd t (λh=>c t h m)]};{show (ov r uq st).aC t=st.aC t;simp [ov,e.pd t (c t m)]};grind [uq,Io,e.pd,d.pd,e.next]
theorem kR {o:Oper}{k:Nat}(h:o.dst=some k):k∈fV o:=by simp [fV,h]
def X3 {ops:Array Oper}{m1 m2:CM}{h1 h2:þ}{o1 Z:Oper}{st:St}{V:ut}{K:St->ut->Prop}(hi:ĝ LF RF ops h1 h2 o1 Z=true)(hm:rP (bI LF RF Z.op)=true\/(bI LF RF Z.op=.call/\m2=.none)\/((bI LF RF Z.op=.oA/\m2=.ao)\/(bI LF RF Z.op=.give/\m2=.give)\/bI LF RF Z.op=.app))(hv:xw P T m1 h1 ops o1 st V λst1 V1=>xw P T m2 h2 ops Z st1 V1 K):xw P T m2 h2 ops Z st V λiw V2=>xw P T m1 h1 ops o1 iw V2 K:=by unfold ĝ at hi;simp only [Đ] at hi;obtain ⟨⟨⟨⟨⟨v,f⟩,g⟩,w⟩,y⟩,l⟩:=hi;split at l;{rename_i S U W X z o;simp only [Đ] at l;obtain ⟨⟨L,n⟩,A⟩:=l;rw [Ko] at f g w y L n A;have B:∀k,Z.dst=some k->o1.dst≠some k:=λk C F=>f k (kR F) (by simp [kR C]);simp only [I1] at hv ⊢;have O:Eu ops o1 st λs m=>Eu ops Z s λD j=>qg P T m1 h1 o1 V (λr G=>qg P T m2 h2 Z G K r j) D m:=by{refine sJ (λs m c=>?_) hv;(cases m with|true=>{have ⟨p,q,i⟩:=tI v z c;have ⟨E,j,b⟩:=iF i.next;refine b.again s _ (λt a=>?_) ?_;{show s.aC t=(ov p q s).aC t;simp [ov,i.pd t (λh=>f t h (by simp [a]))]};refine i.again _ V _ (Ó.Le.refl V) (λt a=>?_) (λ_ _=>rfl) ?_;{show (ov E uq s).aC t=s.aC t;simp [ov,b.pd t (λh=>y t h a)]};grind [Io,uq,b.next,i.pd,b.pd]}|false=>{simp only [qg] at c;have ⟨E,j,b⟩:=iF c;have Q:∀k,o1.dst=some k->E k=none:=λk C=>b.pd k (λh=>f k (kR C) (by simp [h]));refine b.again s _ (λt a=>?_) ?_;{rw [gV];simp [ov,fD (d:=o1.dst) (x:=my) (t:=t) (λh=>f t (kR h) (by simp [a]))]};show qg P T m2 h2 Z V K ((ov E uq s).put o1.dst my) j;rw [mh Q];exact b.next})};have R:Eu ops Z st λs j=>Eu ops o1 s λD m=>qg P T m2 h2 Z V (λr G=>qg P T m1 h1 o1 G K r m) D j:=by{refine sJ (λs j c=>sJ (λD m c=>?_) c) (Ns O);(cases m with|true=>{have ⟨p,q,i⟩:=tI v z c;(cases j with|true=>{refine xW hm o (λt a=>i.pd t (λh=>f t h (by rcases a with a|a<;>simp [a]))) (λs u=>i.qd s (λh=>L s h u)) (λs u=>i.qd s (λh=>A s h u)) (λs2 V2 b=>?_) i.next;obtain ⟨M,H,N,I⟩:=b;exact i.again s2 V2 K M (λt a=>H t (λh=>g t h (by simp [a]))) (λs u=>N s (λh=>n s h u)) I}|false=>{refine i.again _ V K (Ó.Le.refl V) (λt a=>?_) (λs _=>by cases Z.dst<;>rfl) ?_;{rw [gV];simp [ov,fD (d:=Z.dst) (x:=my) (t:=t) (λh=>g t (kR h) (by simp [a]))]};grind [i.next,qg,mh,i.pd,kR]})}|false=>{(cases j with|true=>{simp only [qg] at c ⊢;rw [gV] at c;refine xW hm o (λt a=>fD (λe=>f t (kR e) (by rcases a with a|a<;>simp [a]))) (λs u=>rfl) (λs u=>rfl) (λs2 V2 b=>?_) c;have:=b.2.2.2;grind [gV]}|false=>{simp only [qg] at c ⊢;rw [put_comm B];exact c})})};refine sJ (λs j c=>?_) R;(cases j with|true=>{simp only [qg] at c ⊢;have ⟨p,m,b⟩:=iF c;refine xW hm o (λt a=>b.pd t (λh=>?_)) (λ_ _=>rfl) (λ_ _=>rfl) (λs2 V2 J=>?_) b.next;{rcases a with a|a;{exact w t h a};exact g t a (by simp [h])};obtain ⟨M,H,N,I⟩:=J;exact b.again s2 _ (λt a=>H t (λh=>g t h (by simp [a]))) I}|false=>{simp only [qg] at c ⊢;have ⟨p,m,b⟩:=iF c;refine b.again _ _ (λt a=>?_) ?_;{rw [gV];simp [ov,fD (d:=Z.dst) (x:=my) (t:=t) (λh=>g t (kR h) (by simp [a]))]};{have:=b.next;rw [mh (λk C=>b.pd k (λh=>g k (kR C) (by simp [h])))] at this;exact this}})};cases l
end
end Go.Eng
