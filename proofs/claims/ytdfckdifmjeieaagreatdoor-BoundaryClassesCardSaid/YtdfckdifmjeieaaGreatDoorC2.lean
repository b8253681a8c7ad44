import Derived.Test.YtdfckdifmjeieaaGreatDoorC1
set_option linter.all false
open Go.IntKind (i64 u64 u32)
namespace Go.Eng
section
variable{P:Program}{T:eA}{n:Nat}{V0:Ó}{bU:Nl}{β0:Nat->Nat}{st:St}{β:Nat->Nat}{a:Act}{w:World}{V:Ó}
theorem gZ (b o k:Nat):(⟨b,o,none⟩:Addr).add k=⟨b,o+k,none⟩:=by unfold Addr.add;split;{rename_i h;subst h;rfl};rfl
theorem cell_of_row {g o:Nat}{vs:zA um}{ty:TypeId}(h:w.heap[g]?=some (.cells vs.toArray ty (0,0))):w.cell? ⟨g,o,none⟩=vs[o]?:=by simp [World.cell?,h]
theorem Lf {g o m:Nat}{vs:zA um}{ty t:TypeId}{info:TypeInfo}{d:TypeDesc}(h:w.heap[g]?=some (.cells vs.toArray ty (0,0)))(u:P.info? t=some info)(y:P.underlying t=some d)(hm:info.size=m)(z:xW (nQ d)=true)(E:o+m<=vs.length):(loadVar t ⟨g,o,none⟩).run P w=.ok (.agg ((vs.drop o).take m).toArray) w:=by
 subst hm
 have key:=run_loadCells_list (P:=P) (w:=w) ⟨g,o,none⟩ ((vs.drop o).take info.size) (by
  intro j v a;rw [gZ,cell_of_row h];rw [Ĳ] at a;split at a
  ·rw [Qn9] at a;exact a
  ·cases a)
 rw [ë,Ĵ,Ħ ω] at key;simp only [loadVar,Sem.run_bind,jD y,Result.andThen_ok,z,Ï,aU u,key,Sem.run_pure]
def Ha {g o:Nat}{vs:zA um}{ty t:TypeId}{d:TypeDesc}{v:um}(h:w.heap[g]?=some (.cells vs.toArray ty (0,0)))(u:P.underlying t=some d)(y:xW (nQ d)=false)(z:vs[o]?=some v):(loadVar t ⟨g,o,none⟩).run P w=.ok v w:=by simp only [loadVar,Sem.run_bind,jD u,Result.andThen_ok,y,Ő,Ð,run_load,cell_of_row h,z]
def ß.row (u:ß n V0 bU β0 st β a w V){s:Nat}{b:aZ}(y:st.boxes s=some b)(lb:b.live):w.heap[β s]?=some (.cells (b.cs.den β).toArray b.ty (0,0)):=u.boxes s b y lb
def wE {cs:zA C}{c:C}{s:Nat}(u:c∈cs)(y:s∈c.ids):s∈cs.flatMap C.ids:=č.2 ⟨c,u,y⟩
def Hi (F:ß n V0 bU β0 st β a w V){t:TypeId}{i:TI}(hi:pV P t=some i){x:SV}{sc:zA Prop}{v:SV}(h:mh st.boxes i x=.ret sc v):(Instr.loadAt t (x.den β)).run P w=.ok (v.den β) w/\Ē st v:=by
 obtain ⟨info,d,z,B,y,D,A,E,-⟩:=aP hi;unfold mh at h;split at h
 ·rename_i b o;split at h
  ·rename_i cs ty r;have f:=F.row r dP;have e:=F.EJ b _ r;simp only [æ.den] at f
   have g:xW i.k=true->(if Nat.ble (o+i.size) cs.length then Q.ret [] (.agg ((cs.drop o).take i.size)) else .fail)=.ret sc v ->
     (Instr.loadAt t (SV.den β (.c (.ptr b o)))).run P w=.ok (v.den β) w/\Ē st v:=by
    intro j h;split at h
    ·rename_i u;have u:=Ŕ u;simp only [Q.ret.injEq] at h;obtain ⟨-,rfl⟩:=h;refine ⟨?_,?_⟩;{grind [Lf,Instr.loadAt,Instr.sureAddr,SV.den,C.den,List.map_take,List.map_drop]};intro s l;have ⟨c,m,l⟩:=č.1 l;exact e s (wE (Qg9 (Qn7 m)) l)
    ·cases h
   split at h
   ·rename_i j;exact g (by rw [j];rfl) h
   ·rename_i j;exact g (by rw [j];rfl) h
   ·rename_i p q;have j:xW i.k=false:=by{(cases hik:i.k<;>first|rfl|exact Å hik (p _)|exact Å hik (q _ _))};split at h;{rename_i c m;simp only [Q.ret.injEq] at h;obtain ⟨-,rfl⟩:=h;refine ⟨?_,?_⟩;{have:=Ha (t:=t) (o:=o) (v:=c.den β) f y (A▸j) (by simp [m]);grind [Instr.loadAt,Instr.sureAddr,SV.den,C.den]};intro s l;exact e s (wE (Ď m) l)};cases h
  ·cases h
  ·split at h<;>cases h
  ·cases h
 ·split at h<;>cases h
 ·cases h
def EH.fF:∀(s:EH) {K:C->Prop},s.ex K->∃c,c.ids=[]/\K c
 | .int _,_,⟨_,h⟩=>⟨_,rfl,h⟩
 | .bool,_,⟨_,h⟩=>⟨_,rfl,h⟩
 | .slice,_,⟨_,_,_,h⟩=>⟨_,rfl,h⟩
 | .ptr,_,⟨_,h⟩=>⟨_,rfl,h⟩
 | .str,_,⟨_,h⟩=>⟨_,rfl,h⟩
 | .any,_,⟨_,h⟩=>⟨_,rfl,h⟩
def wC:∀(l:zA EH) {K:zA C->Prop},exL l K->∃cs,cs.flatMap C.ids=[]/\cs.length=l.length/\K cs
 | [],_,h=>⟨[],rfl,rfl,h⟩
 | s::r,K,h=>by
  have ⟨c,y,u⟩:=EH.fF s h;have ⟨cs,a,b,d⟩:=wC r u;grind
def BH.fF:∀(s:BH) {K:SV->Prop},s.ex K->∃x,x.ids=[]/\((∃c,x=.c c/\∃s',s=.one s')\/∃cs l,x=.agg cs/\s=.agg l/\cs.length=l.length)/\K x
 | .one s,K,h=>by have ⟨c,y,u⟩:=EH.fF s h;exact ⟨.c c,y,.inl ⟨c,rfl,s,rfl⟩,u⟩
 | .agg l,K,h=>by have ⟨cs,a,b,u⟩:=wC l h;exact ⟨.agg cs,a,.inr ⟨cs,l,rfl,rfl,b⟩,u⟩
def Cv:∀(l:zA BH) {K:zA (ut×zA C)->Prop},exT l K->∃xs,(xs.flatMap λx=>x.2.flatMap C.ids)=[]/\K xs
 | [],_,h=>⟨[],rfl,h⟩
 | .one s::r,K,h=>by
  have ⟨c,y,u⟩:=EH.fF s h;have ⟨xs,a,b⟩:=Cv r u;grind
 | .agg l::r,K,h=>by
  obtain ⟨cs,y,-,u⟩:=wC l h;have ⟨xs,a,b⟩:=Cv r u;grind
def Sh.fF:∀(s:Sh) {K:SV->Prop},s.ex K->∃x,x.ids=[]/\K x
 | .val s,K,h=>by obtain ⟨x,u,-,y⟩:=BH.fF s h;exact ⟨x,u,y⟩
 | .xU l,K,h=>by have ⟨xs,u,y⟩:=Cv l h;exact ⟨.xU xs,u,y⟩
 | .none,K,h=>⟨.xU [],rfl,h⟩
theorem kU {x:SV}(h:x.ids=[])(β β':Nat->Nat):x.den β=x.den β':=SV.bZ λs a=>by rw [h] at a;cases a
def cB {x:SV}(h:x.ids=[]):Ē st x:=λs a=>by rw [h] at a;cases a
def LP:∀(cs:zA C) (p:Addr) (i:Nat) {k:Prop},V.Zs p i cs k->(∀j c,cs[j]?=some c->V.at (p.add (i+j)) (c.den λ_=>0))/\k
 | [],_,_,_,h=>⟨λj c u=>by simp at u,h⟩
 | c::r,p,i,k,⟨z,y⟩=>by
  have ⟨E,F⟩:=LP r p (i+1) y;grind
def ß.atV (u:ß n V0 bU β0 st β a w V){p:Addr}{v:um}(h:V.at p v):w.cell? p=some v:=by obtain ⟨d,b⟩:=h;unfold World.cell? at b ⊢;split at b;{rename_i c e f g;rw [(u.tK p.block _ ⟨d,g⟩).1];exact b};cases b
def QR {i:TI}{l:zA EH}(h:oP i=.agg l):xW i.k=true/\l.length=i.zero.length:=by unfold oP at h;split at h;{rename_i a;simp only [BH.agg.injEq] at h;subst h;exact ⟨by rw [a];rfl,ψ⟩};{rename_i a;simp only [BH.agg.injEq] at h;subst h;exact ⟨by rw [a];rfl,ψ⟩};split at h<;>cases h
def QS {i:TI}{s:EH}(h:oP i=.one s):xW i.k=false:=by unfold oP at h;split at h;{cases h};{cases h};rename_i a b;(cases hik:i.k<;>first|rfl|exact Å hik (a _)|exact Å hik (b _ _))
def rd_run (O:ß n V0 bU β0 st β a w V){t:TypeId}{i:TI}(hi:pV P t=some i)(hz:i.zero.length=i.size){p:OA}{x:SV}{k:Prop}(Z:x.ids=[])(M:(∃c,x=.c c/\∃s',oP i=.one s')\/∃cs l,x=.agg cs/\oP i=.agg l/\cs.length=l.length)(h:V.Zr p x k):(Instr.loadAt t (.pointer p)).run P w=.ok (x.den β) w/\k:=by
 obtain ⟨info,d,z,r,o,F,q,u,-⟩:=aP hi;rcases M with ⟨c,rfl,s,M⟩|⟨cs,l,rfl,M,y⟩
 ·obtain ⟨⟨f,rfl,g⟩,A⟩:=h;have b:=QS M;rw [q] at b;refine ⟨?_,A⟩;simp only [Instr.loadAt,Instr.sureAddr,Sem.run_bind,Sem.run_pure,Result.andThen_ok,loadVar,jD o,b,Ő,Ð,run_load,O.atV g];rw [kU Z β λ_=>0];rfl
 ·obtain ⟨f,rfl,B⟩:=h;have ⟨b,m⟩:=QR M;rw [q] at b;have ⟨D,E⟩:=LP cs f 0 B;refine ⟨?_,E⟩
  have key:=run_loadCells_list (P:=P) (w:=w) f (cs.map (C.den λ_=>0)) (by
   intro j v e;rw [Wz7] at e
   cases N:cs[j]? with
   | none=>rw [N] at e;cases e
   | some c=>
    rw [N] at e;simp only [Wj2,ā] at e;subst e;have:=O.atV (D j c N);simpa using this)
  rw [Ě,y,m,hz,u] at key;simp only [Instr.loadAt,Instr.sureAddr,Sem.run_bind,Sem.run_pure,Result.andThen_ok,loadVar,jD o,b,Ï,aU r,key];rw [kU Z β λ_=>0];rfl
def Hk (M:ß n V0 bU β0 st β a w V){t:TypeId}{i:TI}(hi:pV P t=some i){b o:Nat}{vs:zA um}{ty:TypeId}(F:st.boxes b=some ⟨.row vs,ty⟩\/(st.boxes b=some ⟨.aH vs,ty⟩/\i.size≠0)){x:SV}(N:x.ids=[])(E:(∃c,x=.c c/\∃s',oP i=.one s')\/∃cs l,x=.agg cs/\oP i=.agg l/\cs.length=l.length)(h:ZA vs o i.size x):(Instr.loadAt t (SV.den β (.c (.ptr b o)))).run P w=.ok (x.den β) w:=by obtain ⟨info,d,z,p,j,A,k,q,-⟩:=aP hi;have g:w.heap[β b]?=some (.cells vs.toArray ty (0,0)):=by{rcases F with F|⟨F,B⟩;{exact M.row F dQ};refine M.row F (gI λe=>?_);subst e;rcases E with ⟨c,rfl,s,E⟩|⟨cs,l,rfl,E,r⟩;{simp [ZA] at h};{have:=h.1;simp at this;omega}};rcases E with ⟨c,rfl,s,E⟩|⟨cs,l,rfl,E,r⟩;{have f:=QS E;rw [k] at f;have:=Ha (t:=t) (o:=o) g j f h;rw [show SV.den β (.c c)=C.den (λ_=>0) c from kU (x:=.c c) N β _];show (Instr.loadAt t (.pointer (some ⟨β b,o,none⟩))).run P w=_;grind [Instr.loadAt,Instr.sureAddr]};have ⟨f,u⟩:=QR E;rw [k] at f;obtain ⟨v,y⟩:=h;have:=Lf (t:=t) (o:=o) (m:=i.size) g p j q.symm f v;simp only [Instr.loadAt,Instr.sureAddr,C.den,SV.den,Sem.run_bind,Sem.run_pure,Result.andThen_ok,this,y];have:=kU (x:=.agg cs) N β λ_=>0;grind [SV.den]
def one_of {c:C}(h:∀p∈ie c,p):(c.den β).oneCell'=true:=by (cases c with|v x=>{(cases x<;>first|rfl|exact (h False (by simp [ie])).elim)}|w x=>{exact h (x.oneCell'=true) (by simp [ie])}|_=>rfl)
def R6 {v:um}(h:v.oneCell'=true):v.cells=#[v]:=by cases v<;>first|rfl|simp [Value.oneCell'] at h
def SV.yu {x:SV}(u:x.CL=false)(h:∀p∈x.ie,p):(x.den β).cells=(x.cells.map (C.den β)).toArray/\∀v∈x.cells.map (C.den β),v.oneCell'=true:=by have b:∀c∈x.cells,(c.den β).oneCell'=true:=λc a=>one_of λp d=>h p (č.2 ⟨c,a,d⟩);refine ⟨?_,λv e=>by obtain ⟨c,a,rfl⟩:=þ.1 e;exact b c a⟩;(cases x with|c c=>{exact R6 (b c (by simp [SV.cells]))}|agg cs=>rfl|xU xs=>{cases u})
def mo {g:Nat}{old cs:Array um}{ty:TypeId}(h:w.heap[g]?=some (.cells old ty (0,0))):(w.setRow g cs).heap=w.heap.setIfInBounds g (.cells cs ty (0,0)):=by apply Array.ext_getElem?;grind [setRow_heap,setRow_other]
theorem gO {cs:zA C}{vs:zA um}(h:ni cs=some vs):cs.map (C.den β)=vs/\cs.flatMap C.ids=[]:=by
 induction cs generalizing vs with
 | nil=>simp [ni] at h;subst h;exact ⟨rfl,rfl⟩
 | cons c r u=>
  simp only [ni] at h;split at h
  ·rename_i v ws b a;simp only [ā] at h;subst h;have ⟨d,e⟩:=u a;have:c.den β=v/\c.ids=[]:=by{cases c<;>simp_all [C.val?,C.den,C.ids]};grind
  ·cases h
theorem xw {cs xs:zA C}{o:Nat}:(ă cs o xs).map (C.den β)=(cs.map (C.den β)).take o++xs.map (C.den β)++(cs.map (C.den β)).drop (o+xs.length):=by simp [ă,Wk1,Wk2]
def xu {cs xs:zA C}{o s:Nat}(h:s∈(ă cs o xs).flatMap C.ids):s∈cs.flatMap C.ids\/s∈xs.flatMap C.ids:=by have ⟨c,a,b⟩:=č.1 h;simp only [ă,ü] at a;grind
def mq {vs xs:zA um}{o:Nat}(h:o+xs.length<=vs.length:=by omega):bI vs o xs=vs.take o++xs++vs.drop (o+xs.length):=by unfold bI;grind [List.set_eq_take_append_cons_drop]
def SV.yv {x:SV}{s:Nat}(u:x.CL=false):s∈x.cells.flatMap C.ids->s∈x.ids:=by cases x<;>grind [SV.cells,SV.ids]
def OM (hM:ß n V0 bU β0 st β a w V){t:TypeId}{i:TI}(hi:pV P t=some i){av xv:SV}(hx:Ē st xv){sc:zA Prop}{s:Nat}{b:aZ}(h:jA st.boxes i av xv=.Ax sc s b)(hsc:∀p∈sc,p):∃w',(Instr.storeAt t (av.den β) (xv.den β)).run P w=.ok () w'/\ß n V0 bU β0 (st.box s b) β a w' V:=by
 obtain ⟨info,d,z,U,Y,Z,h4,h5,-⟩:=aP hi;unfold jA at h;split at h
 ·rename_i g o;split at h
  ·rename_i k;simp only [Č,beq_eq,Qd3] at k;obtain ⟨hlen,y⟩:=k
   have core:∀(j:zA um)(ty:TypeId)(L:aZ),w.heap[β g]?=some (.cells j.toArray ty (0,0))->(∀p∈xv.ie,p)->o+xv.cells.length<=j.length->L.ty=ty ->
     L.cs.den β=j.take o++xv.cells.map (C.den β)++j.drop (o+xv.cells.length) ->
     ∃w',(Instr.storeAt t (SV.den β (.c (.ptr g o))) (xv.den β)).run P w=.ok () w'/\w'.heap=w.heap.setIfInBounds (β g) (L.obj β)/\w'.os=w.os/\w'.tape=w.tape/\w'.output=w.output/\w.drawn<=w'.drawn:=by
    intro j ty L f A hle N B;have ⟨D,O⟩:=SV.yu (β:=β) y A;have key:=run_storeCells_at (P:=P) (β g) o ty (xv.cells.map (C.den β)) 0 j.toArray w f (by simpa using hle) O;refine ⟨w.setRow (β g) (j.take o++xv.cells.map (C.den β)++j.drop (o+xv.cells.length)).toArray,?_,?_⟩
    ·generalize xv.den β=v at D;show (Instr.storeAt t (.pointer (some ⟨β g,o,none⟩)) v).run P w=_;simp only [Instr.storeAt,Instr.sureAddr,Sem.run_bind,Sem.run_pure,Result.andThen_ok,storeVar,aU U,D];grind
    ·exact ⟨by rw [mo f,aZ.obj,B,N],rfl,rfl,rfl,Ù _⟩
   split at h
   ·rename_i cs ty q;split at h;{rename_i W;simp only [Q.Ax.injEq] at h;obtain ⟨rfl,rfl,rfl⟩:=h;have f:=hM.row q dP;have ⟨w',E,F,G,H,I,J⟩:=core _ _ ⟨.lit (ă cs o xv.cells),ty⟩ f hsc (by simpa [æ.den,hlen] using (Ŕ W)) rfl (by simp only [æ.den];exact xw);refine ⟨w',E,hM.Ax q dP ?_ F G H I J⟩;intro M l;rcases xu l with R|R;{exact hM.EJ _ _ q M R};exact hx M (SV.yv y R)};cases h
   ·rename_i x ty q;split at h
    ·rename_i xs r;simp only [Q.Ax.injEq] at h;obtain ⟨rfl,rfl,rfl⟩:=h;have f:=hM.row q dQ;have ⟨m,S⟩:=gO (β:=β) r;have hle:o+i.size<=x.length:=hsc _ ψ;have u:xs.length=i.size:=by rw [<-m,Ě,hlen]
     have ⟨w',E,F,G,H,I,J⟩:=core _ _ ⟨.row (bI x o xs),ty⟩ f (λp T=>hsc p (Ĕ _ T)) (by simpa [æ.den,hlen] using hle) rfl (by
      simp only [æ.den];rw [mq,m,hlen,u])
     exact ⟨w',E,hM.Ax q dQ (by intro M l;simp [æ.ids] at l) F G H I J⟩
    ·cases h
   ·rename_i x ty q;split at h
    ·cases h
    rename_i X;split at h
    ·rename_i xs r;simp only [Q.Ax.injEq] at h;obtain ⟨rfl,rfl,rfl⟩:=h;have ⟨m,S⟩:=gO (β:=β) r;have hle:o+i.size<=x.length:=hsc _ ψ
     have K:aZ.live ⟨.aH x,ty⟩:=gI λe=>by subst e;simp at hle;exact X (by rw [hle.2];rfl)
     have u:xs.length=i.size:=by rw [<-m,Ě,hlen]
     have ⟨w',E,F,G,H,I,J⟩:=core _ _ ⟨.aH (bI x o xs),ty⟩ (hM.row q K) (λp T=>hsc p (Ĕ _ T)) (by simpa [æ.den,hlen] using hle) rfl (by
      simp only [æ.den];rw [mq,m,hlen,u])
     exact ⟨w',E,hM.Ax q K (by intro M l;simp [æ.ids] at l) F G H I J⟩
    ·cases h
   ·cases h
  ·cases h
 ·cases h
def Sn (xs:zA um):∀(cs:Array um)(off:Nat),off+xs.length<=cs.size ->(xs.toArray.zipIdx.foldl (λcs (p:um×Nat)=>cs.setIfInBounds (off+p.2) p.1) cs)=(cs.toList.take off++xs++cs.toList.drop (off+xs.length)).toArray:=by
 have gen:∀(xs:zA um)(k:Nat)(cs:zA um)(off:Nat),off+k+xs.length<=cs.length ->
   (xs.zipIdx k).foldl (λ(cs:Array um) (p:um×Nat)=>cs.setIfInBounds (off+p.2) p.1) cs.toArray=(cs.take (off+k)++xs++cs.drop (off+k+xs.length)).toArray:=by
  intro xs
  induction xs with
  | nil=>intro k cs off _;simp
  | cons x r u=>
   intro k cs off h;simp only [Ċ] at h;simp only [List.zipIdx_cons,Ť,List.setIfInBounds_toArray];rw [u (k+1) (cs.set (off+k) x) off (by simp;omega)];congr 1;have a:off+k<cs.length:=ω
   rw [Qs6,Ä a]
   have b:(cs.take (off+k)++x::cs.drop (off+k+1)).take (off+(k+1))=cs.take (off+k)++[x]:=by rw [List.take_append,ŋ (by simp;omega),ë,Ħ ω,show off+(k+1)-(off+k)=1 from by omega];simp
   have c:(cs.take (off+k)++x::cs.drop (off+k+1)).drop (off+(k+1)+r.length)=cs.drop (off+k+(r.length+1)):=by rw [List.drop_append,ľ (by simp;omega),ë,Ħ ω,show off+(k+1)+r.length-(off+k)=r.length+1 from by omega];grind [List.drop_drop]
   rw [b,c];simp
 intro cs off h;have:=gen xs 0 cs.toList off (by simpa using h);simpa [<-Array.foldl_toList] using this
def tm {place:Nat->Option (Nat×Nat)}:∀(z:zA (Nat×SV))(cells out:zA C),ur place cells z=some out ->(∀x∈z,∀v:C,v∈x.2.cells->∀p∈ie v,p) ->Instr.fill place (cells.map (C.den β)).toArray (z.map λx=>(x.1,x.2.den β))=some (out.map (C.den β)).toArray/\(∀s∈out.flatMap C.ids,s∈cells.flatMap C.ids\/∃x∈z,s∈x.2.ids)
 | [],cells,out,h,_=>by
  simp only [ur,ā] at h;subst h;exact ⟨rfl,λs E=>.inl E⟩
 | (i,x)::r,cells,out,h,hone=>by
  simp only [ur] at h;split at h
  ·cases h
  ·rename_i off size u;split at h
   ·rename_i F;simp only [Č,beq_eq,Qd3] at F;obtain ⟨⟨M,hle⟩,hnt⟩:=F;have hle:=Ŕ hle;have hnt:x.CL=false:=by simpa using hnt
    have e:∀p∈x.ie,p:=λp u=>by
     have ⟨v,f,u⟩:=č.1 u;exact hone (i,x) ψ v f p u
    obtain ⟨b,-⟩:=SV.yu (β:=β) hnt e;have ⟨j,g⟩:=tm r _ _ h (λy c=>hone y (ø _ c));refine ⟨?_,?_⟩
    ·simp only [Ĺ,Instr.fill,u];rw [Ã (by rw [b];simp [M];omega)];rw [b];have:=Sn (x.cells.map (C.den β)) (cells.map (C.den β)).toArray off (by simpa [M] using hle);grind [xw]
    ·intro s E;rcases g s E with d|⟨y,c,d⟩
     ·rcases xu d with a|a
      ·exact .inl a
      ·exact .inr ⟨(i,x),ψ,SV.yv hnt a⟩
     grind
   ·cases h
def mW (E:ß n V0 bU β0 st β a w V):∀(l:zA (Nat×Operand))(u:zA (Nat×SV)),ö st.bQ l=some u ->(l.map λx=>(x.1,a.eval x.2))=(u.map λx=>(x.1,x.2.den β))/\∀x∈u,Ē st x.2
 | [],u,h=>by simp only [ö,ā] at h;subst h;exact ⟨rfl,λx z=>by cases z⟩
 | (i,o)::r,u,h=>by
  simp only [ö] at h;split at h
  ·rename_i x l z F;simp only [ā] at h;subst h;have ⟨M,N⟩:=mW E r l F;refine ⟨by simp [M,E.eval z],λy b=>?_⟩;rcases ç.1 b with rfl|b
   ·exact E.live z
   ·exact N y b
  ·cases h
def iM (z:ß n V0 bU β0 st β a w V):∀(l:zA Operand)(xs:zA SV),cR st.bQ l=some xs ->l.map a.eval=xs.map (SV.den β)/\∀x∈xs,Ē st x
 | [],xs,h=>by simp only [cR,ā] at h;subst h;exact ⟨rfl,λx u=>by cases u⟩
 | o::r,xs,h=>by
  simp only [cR] at h;split at h
  ·rename_i x l u E;simp only [ā] at h;subst h;have ⟨F,M⟩:=iM z r l E;refine ⟨by simp [F,z.eval u],λy b=>?_⟩;rcases ç.1 b with rfl|b
   ·exact z.live u
   ·exact M y b
  ·cases h
def qA (hT:eA.ok P T):∀(gs:zA Field)(pl:zA (Nat×Nat)),iI T (gs.map λf=>(f.type,f.offset))=some pl ->∀w:World,(gs.mapM λf:Field=>do pure (f.offset,<-sizeOf f.type)).run P w=.ok pl w
 | [],pl,h,w=>by simp only [List.map_nil,iI,ā] at h;subst h;simp
 | f::r,pl,h,w=>by
  simp only [Ĺ,iI] at h;split at h
  ·rename_i i l hi u;simp only [ā] at h;subst h;obtain ⟨info,d,z,y,F,M,N,E,-⟩:=aP (hT _ _ hi);have:=qA hT r l u w;simp only [bind_pure_comp] at this;simp [List.mapM_cons,aU y,this,E]
  ·cases h
def f_ {i:TI}{z:um}(h:i.zero=z.cells.toList.map C.ofConst):(i.zero.map (C.den β)).toArray=z.cells/\i.zero.flatMap C.ids=[]:=by rw [h];exact ⟨by rw [Lh],Iw _⟩
def IU {u:zA (Nat×SV)}(h:∀p∈u.flatMap (λx=>x.2.ie),p):∀x∈u,∀v:C,v∈x.2.cells->∀p∈ie v,p:=
 λx a v b p c=>h p (č.2 ⟨x,a,č.2 ⟨v,b,c⟩⟩)
def parts_eq {parts:Array (Nat×Operand)}{u:zA (Nat×SV)}(h:(parts.toList.map λx=>(x.1,a.eval x.2))=(u.map λx=>(x.1,x.2.den β))):(parts.map λx=>(x.1,a.eval x.2)).toList=u.map λx=>(x.1,x.2.den β):=by rw [Qf1];exact h
def HW (hT:eA.ok P T)(M:ß n V0 bU β0 st β a w V){t:TypeId}{i:TI}(hi:pV P t=some i){fs:zA (TypeId×Nat)}(F:i.k=.struct fs){parts:Array (Nat×Operand)}{E:zA (Nat×SV)}(N:ö st.bQ parts.toList=some E){pl:zA (Nat×Nat)}(hpl:iI T fs=some pl){cs:zA C}(O:ur (λj=>pl[j]?) i.zero E=some cs)(hsc:∀p∈E.flatMap (λx=>x.2.ie),p):(Instr.build t (parts.map λx=>(x.1,a.eval x.2))).run P w=.ok (SV.den β (.agg cs)) w/\Ē st (.agg cs):=by have ⟨info,d,z,b,c,e,g,A,B,l⟩:=aP hi;have ⟨m,o⟩:=mW M _ _ N;rw [g] at F;obtain ⟨gs,rfl,rfl⟩:=lS F;have ⟨q,r⟩:=f_ (β:=β) l;have ⟨f1,f2⟩:=tm (β:=β) _ _ _ O (IU hsc);have hm:=qA hT gs.toList pl hpl w;refine ⟨?_,?_⟩;{have u:(gs.mapM λf:Field=>do pure (f.offset,<-sizeOf f.type)).run P w=.ok pl.toArray w:=by{grind [Array.mapM_eq_mapM_toList,Sem.run_map,Result.andThen_ok]};simp only [Instr.build,Sem.run_bind,lF b e,Result.andThen_ok,aj c,u];rw [parts_eq m,<-q];have:(λj:Nat=>pl.toArray[j]?)=λj:Nat=>pl[j]?:=by{funext j;simp};rw [this,f1];rfl};intro s v;rcases f2 s v with h|⟨x,y,h⟩;{rw [r] at h;cases h};exact o x y s h
def Kj (hT:eA.ok P T)(hM:ß n V0 bU β0 st β a w V){t:TypeId}{i:TI}(hi:pV P t=some i){m:Nat}{e:TypeId}(Z:i.k=.arr m e){parts:Array (Nat×Operand)}{N:zA (Nat×SV)}(hp:ö st.bQ parts.toList=some N){O:TI}(he:aI T e=some O){cs:zA C}(hf:ur (λj=>some (j*O.size,O.size)) i.zero N=some cs)(hsc:∀p∈N.flatMap (λx=>x.2.ie),p):(Instr.build t (parts.map λx=>(x.1,a.eval x.2))).run P w=.ok (SV.den β (.agg cs)) w/\Ē st (.agg cs):=by have ⟨info,d,z,b,c,f,g,D,E,l⟩:=aP hi;have ⟨F,G,H,o,I,J,K,q,L,M⟩:=aP (hT _ _ he);have ⟨r,u⟩:=mW hM _ _ hp;rw [g] at Z;obtain rfl:=rA Z;have ⟨v,y⟩:=f_ (β:=β) l;have ⟨f1,f2⟩:=tm (β:=β) _ _ _ hf (IU hsc);refine ⟨?_,?_⟩;{simp only [Instr.build,Sem.run_bind,lF b f,Result.andThen_ok,aj c,aU o];rw [parts_eq r,<-v,<-q,f1];rfl};intro s A;rcases f2 s A with h|⟨x,B,h⟩;{rw [y] at h;cases h};exact u x B s h
def S6 {α:Type}[Inhabited α](u:zA α)(m:Nat):((List.range (m*u.length)).map λj=>u.toArray[j%u.length]!)=(List.replicate m u).flatten:=by
 induction m with
 | zero=>simp
 | succ m y=>
  rw [List.replicate_succ',List.flatten_append,<-y,Ş,List.range_add,ś];congr 1;simp only [List.flatten_cons,List.flatten_nil,ć,Wq2];apply Qh1;grind [List.getElem?_range,Nat.add_mul_mod_self_right,Nat.mod_eq_of_lt]
def Zu (m:Nat)(u:zA C):(rep m u).map (C.den β)=(List.replicate m (u.map (C.den β))).flatten:=by unfold rep;rw [List.map_flatten,Wy3]
def Zt {m:Nat}{u:zA C}(h:u.flatMap C.ids=[]):(rep m u).flatMap C.ids=[]:=by
 unfold rep
 induction m<;>grind
theorem qm (m:Nat)(u:zA um):vN m u=(List.replicate m u).flatten:=by
 unfold vN;split
 ·rename_i z
  induction m<;>grind
 ·rfl
theorem xY {z:um}{m:Nat}(k:Nat)(u:k=m*z.cells.size):((Array.range k).map λj=>z.cells[j%z.cells.size]!)=((List.replicate m z.cells.toList).flatten).toArray:=by apply ŀ;rw [Qf1,Array.toList_range];subst u;have:=S6 z.cells.toList m;simpa using this
def BQ {z:um}{m:Nat}(u:m*z.cells.size=0):(List.replicate m z.cells.toList).flatten=[]:=by rcases Qp5.1 u with h|h;{subst h;rfl};{have:z.cells.toList=[]:=χ;rw [this];simp}
def Wn:Array.range 0=#[]:=rfl
def BR (hT:eA.ok P T)(hM:ß n V0 bU β0 st β a w V){t:TypeId}{i:TI}(hi:pV P t=some i){e:TypeId}(hk:i.k=.slice e){len:Nat}{parts:Array (Nat×Operand)}{ps:zA (Nat×SV)}(hp:ö st.bQ parts.toList=some ps){Z:TI}(he:aI T e=some Z)(hlen:len*Z.size<=16777216)(hzl:Z.zero.length=Z.size)(hz0:Z.size≠0){cs:zA C}(hf:ur (λj=>some (j*Z.size,Z.size)) (rep len Z.zero) ps=some cs)(hsc:∀p∈ps.flatMap (λx=>x.2.ie),p):(Instr.buildSlice t len (parts.map λx=>(x.1,a.eval x.2))).run P w=.ok (.slice (some ⟨w.heap.size,0,none⟩) len len) (w.alloc (aZ.obj β ⟨.lit cs,e⟩))/\∀s∈cs.flatMap C.ids,∃b,st.boxes s=some b:=by have ⟨info,d,z,K,y,L,A,M,N,O⟩:=aP hi;obtain ⟨g,Q,l,r,R,B,S,o,U,D⟩:=aP (hT _ _ he);have ⟨u,E⟩:=mW hM _ _ hp;rw [A] at hk;obtain rfl:=bu hk;have ⟨v,F⟩:=f_ (β:=β) D;have ⟨f1,f2⟩:=tm (β:=β) _ _ _ hf (IU hsc);have f:l.cells.size=g.size:=by{rw [<-v];simp [hzl,o]};refine ⟨?_,?_⟩;{have c:((List.replicate len l.cells.toList).flatten).toArray=((rep len Z.zero).map (C.den β)).toArray:=by{rw [Zu,<-v]};have G:¬len*g.size>2^24:=by{rw [<-o];simpa using hlen};simp only [Instr.buildSlice,Sem.run_bind,aj y,Result.andThen_ok,aU r,Sem.run_ite,Ã G];by_cases q:len*g.size=0;{have H:=BQ (z:=l) (m:=len) (by rw [f];exact q);rw [H] at c;simp only [q,Ï,Sem.run_pure,Result.andThen_ok,Wn,Array.map_empty,<-c] at f1 ⊢;rw [parts_eq u,<-o];rw [f1];simp only [Sem.run_bind,newRow,run_newObj,Result.andThen_ok,Sem.run_pure];rfl};simp only [q,Ð,lF r B,Sem.run_pure,Result.andThen_ok];rw [xY (z:=l) (m:=len) (len*g.size) (by rw [f]),c,parts_eq u,<-o,f1];simp only [Sem.run_bind,newRow,run_newObj,Result.andThen_ok,Sem.run_pure];rfl};intro s I;rcases f2 s I with h|⟨x,J,h⟩;{rw [Zt F] at h;cases h};exact E x J s h
def HF {x:Int}(u:0<=x)(y:x<9223372036854775808:=by omega):i64.wrap x=x:=by unfold IntKind.wrap IntKind.bits IntKind.signed;simp;omega
def Fe (hT:eA.ok P T){t:TypeId}{i:TI}(hi:pV P t=some i){e:TypeId}(O:i.k=.slice e){M:TI}(he:aI T e=some M){k1 k2:IntKind}{l c:Int}(hb:M.bytes≠0)(hs:M.size≠0){N:zA um}(Z:ni M.zero=some N)(hzl:M.size=N.length)(c1:0<=l)(c2:l<=c)(c3:(M.bytes:Int)*c<=2^47):(Instr.makeSlice t (.int k1 l) (.int k2 c)).run P w=.ok (.slice (some ⟨w.heap.size,0,none⟩) l.toNat c.toNat) (w.alloc (aZ.obj β ⟨.row (vN c.toNat N),e⟩)):=by obtain ⟨info,d,z,A,p,B,q,C,D,E⟩:=aP hi;have ⟨f,F,g,h,G,r,H,s,u,v⟩:=aP (hT _ _ he);rw [q] at O;obtain rfl:=bu O;have ⟨n,I⟩:=f_ (β:=β) v;obtain ⟨d1,-⟩:=gO (β:=β) Z;have b:g.cells.size=f.size:=by{rw [<-n,d1];simp [<-hzl,s]};have o:c<=2^47:=by{have:1<=(M.bytes:Int):=ω;have:=Int.mul_le_mul_of_nonneg_right this (by omega:0<=c);omega};have x:i64.wrap c=c:=HF ω;rw [u] at c3;have t1:(decide (c<0)||decide ((f.bytes:Int)*c>2^48))=false:=χ;have t2:decide (l<0)=false:=by{simp;omega};have t3:decide (l>c)=false:=by{simp;omega};have a:(List.replicate c.toNat g.cells.toList).flatten=vN c.toNat N:=by{rw [qm,<-d1,<-n]};simp only [Instr.makeSlice,Sem.run_bind,aj p,Result.andThen_ok,nM h,asInt,asIntOf,Sem.run_pure,(HF c1),x,t1,t2,t3,Bool.or_self,Ő,Ð,run_askRoom,aU h,Sem.run_ite];by_cases j:c.toNat*f.size=0;{have y:=BQ (z:=g) (m:=c.toNat) (by rw [b];exact j);rw [y] at a;simp only [j,Ï,Sem.run_bind,Sem.run_pure,Result.andThen_ok,Wn,Array.map_empty,newRow,run_newObj,<-a];rfl};simp only [j,Ð,lF h r,Result.andThen_ok];rw [xY (z:=g) (m:=c.toNat) (c.toNat*f.size) (by rw [b]),a];simp only [Sem.run_bind,newRow,run_newObj,Result.andThen_ok,Sem.run_pure];rfl
def KT {gs:Array Field}{f y off:Nat}(h:(gs.toList.map λf=>(f.type,f.offset))[f]?=some (y,off)):∃u,gs[f]?=some u/\u.type=y/\u.offset=off:=by rw [Wz7] at h;(cases z:gs.toList[f]? with|none=>{rw [z] at h;cases h}|some u=>grind)
def zM (hT:eA.ok P T){t:TypeId}{i:TI}(hi:pV P t=some i){fs:zA (TypeId×Nat)}(y:i.k=.struct fs){f E off:Nat}(F:fs[f]?=some (E,off)){fi:TI}(hfi:aI T E=some fi)(M:fi.size≠0)(ad:Addr):(Instr.fieldAt t (.pointer (some ad)) f).run P w=.ok (.pointer (some (ad.add off))) w:=by have ⟨info,d,z,h,b,j,c,l,m,n⟩:=aP hi;obtain ⟨a,fd,o,e,p,q,r,s,u,v⟩:=aP (hT _ _ hfi);rw [c] at y;obtain ⟨gs,rfl,rfl⟩:=lS y;obtain ⟨x,g,rfl,rfl⟩:=KT F;simp only [Instr.fieldAt,Sem.run_bind,aj b,Result.andThen_ok,g,Instr.sureAddr,Sem.run_pure,fieldPlace,aU e];rw [Sem.run_ite,Ã ω];rfl
def LA {t:TypeId}{i:TI}(hi:pV P t=some i)(cs:zA C)(off:Nat):(xW i.k=true->(part t (cs.map (C.den β)).toArray off).run P w=.ok (SV.den β (.agg ((cs.drop off).take i.size))) w)/\(∀c,xW i.k=false->cs[off]?=some c->(part t (cs.map (C.den β)).toArray off).run P w=.ok (c.den β) w):=by have ⟨info,d,z,f,b,h,e,j,l,m⟩:=aP hi;refine ⟨λa=>?_,λc a g=>?_⟩;{rw [e] at a;simp only [part,Sem.run_bind,jD b,Result.andThen_ok,a,Ï,aU f,Sem.run_pure,SV.den];grind [List.map_take,List.map_drop]};rw [e] at a;simp [part,jD b,a,g]
def Sj (hT:eA.ok P T){t:TypeId}{i:TI}(hi:pV P t=some i){fs:zA (TypeId×Nat)}(u:i.k=.struct fs){f y off:Nat}(E:fs[f]?=some (y,off)){fi:TI}(hfi:aI T y=some fi){cs:zA C}:(xW fi.k=true->(Instr.field t (SV.den β (.agg cs)) f).run P w=.ok (SV.den β (.agg ((cs.drop off).take fi.size))) w)/\(∀c,xW fi.k=false->cs[off]?=some c->(Instr.field t (SV.den β (.agg cs)) f).run P w=.ok (c.den β) w):=by have ⟨info,d,z,n,g,o,j,p,q,s⟩:=aP hi;rw [j] at u;obtain ⟨gs,rfl,rfl⟩:=lS u;obtain ⟨b,l,rfl,rfl⟩:=KT E;have e:=LA (w:=w) (β:=β) (hT _ _ hfi) cs b.offset;have a:∀r,(part b.type (cs.map (C.den β)).toArray b.offset).run P w=r->(Instr.field t (SV.den β (.agg cs)) f).run P w=r:=by{intro r a;simp only [Instr.field,Sem.run_bind,aj g,Result.andThen_ok,l,asAgg,SV.den,Sem.run_pure,a]};exact ⟨λh=>a _ (e.1 h),λc h m=>a _ (e.2 c h m)⟩
def fM (k:IntKind)(x:Int):(asIntOf (.int k x)).run P w=.ok (k,x) w:=rfl
def Dl (hT:eA.ok P T){t:TypeId}{i:TI}(hi:pV P t=some i){x Z:SV}{sc:zA Prop}{v:SV}(h:jz T i x Z=.ret sc v)(hsc:∀p∈sc,p):(Instr.indexAt t (x.den β) (Z.den β)).run P w=.ok (v.den β) w/\∀s∈v.ids,s∈x.ids:=by have ⟨info,d,z,J,j,K,q,L,M,N⟩:=aP hi;unfold jz at h;split at h;{rename_i k m;split at h;{rename_i e l;rw [q] at l;obtain rfl:=bu l;split at h;{rename_i r he;have ⟨u,y,A,f,B,D,E,g,F,G⟩:=aP (hT _ _ he);split at h;{rename_i n len c;cases h;have H:=hsc (n.isSome=true) ψ;have b:=hsc (0<=m/\m<(len:Int)) ψ;obtain ⟨p,rfl⟩:=Qd7.1 H;refine ⟨?_,λs a=>a⟩;simp [Instr.indexAt,SV.den,C.den,fM,aj j,b,aU f,af,g]};{rename_i s o len c;cases h;have b:=hsc (0<=m/\m<(len:Int)) ψ;refine ⟨?_,λs a=>by simpa [SV.ids,C.ids] using a⟩;simp [Instr.indexAt,SV.den,C.den,fM,aj j,b,aU f,gZ,g]};{rename_i s len c;cases h;have b:=hsc (0<=m/\m<(len:Int)) ψ;have O:=hsc (len<=c) ψ;refine ⟨?_,λs a=>by simpa [SV.ids,C.ids] using a⟩;have I:mA (β s) c=some ⟨β s,0,none⟩:=by{unfold mA;rw [Ã ω]};simp [Instr.indexAt,SV.den,C.den,fM,aj j,b,aU f,gZ,g,I]};cases h};cases h};{rename_i len e l;rw [q] at l;obtain rfl:=rA l;split at h;{rename_i r he;have ⟨u,y,A,f,B,D,E,g,F,G⟩:=aP (hT _ _ he);split at h;{rename_i s o;cases h;have b:=hsc (0<=m/\m<(len:Int)) ψ;refine ⟨?_,λs a=>by simpa [SV.ids,C.ids] using a⟩;simp [Instr.indexAt,Instr.sureAddr,SV.den,C.den,fM,aj j,b,aU f,gZ,g]};{rename_i n;cases h;obtain ⟨p,rfl⟩:=Qd7.1 (hsc (n.isSome=true) ψ);refine ⟨?_,λs a=>a⟩;simp [Instr.indexAt,Instr.sureAddr,SV.den,C.den,fM,aj j,(hsc (0<=m/\m<(len:Int)) ψ),aU f,af,g]};cases h};cases h};cases h};cases h
def Rw {k:IntKind}{x:Int}{y:Nat}(code:BoundsCode)(h:0<=x/\x<=(y:Int)):(Instr.sliceBound (.int k x) y code).run P w=.ok x.toNat w:=by simp [Instr.sliceBound,fM,h]
def kh {len c:Nat}{lo hi mx:Option SV}{sc:zA Prop}{l:Option Nat}{h m:Nat}(u:tA len c lo hi mx=some (sc,l,h,m))(hsc:∀p∈sc,p):(Instr.sliceBounds true len c (lo.map (SV.den β)) (hi.map (SV.den β)) (mx.map (SV.den β))).run P w=.ok (l.getD 0,h,m) w:=by
 unfold tA at u
 cases y:Zj c mx with
 | none=>rw [y] at u;cases u
 | some t=>
  obtain ⟨g,a⟩:=t;rw [y] at u;dsimp only at u
  cases z:Wh len a hi mx with
  | none=>rw [z] at u;cases u
  | some t=>
   obtain ⟨i,b⟩:=t;rw [z] at u;dsimp only at u
   cases E:qLow b lo with
   | none=>rw [E] at u;cases u
   | some t=>
    obtain ⟨j,f⟩:=t;rw [E] at u;simp only [ā,Ŗ] at u;obtain ⟨rfl,rfl,rfl,rfl⟩:=u
    have hm:((mx=none/\a=c)\/∃k x,mx=some (.c (.v (.int k x)))/\a=x.toNat/\(0<=x/\x<=(c:Int))):=by unfold Zj at y;split at y;{simp only [ā,Ŗ] at y;exact .inl ⟨rfl,y.2.symm⟩};{rename_i k x;simp only [ā,Ŗ] at y;obtain ⟨rfl,rfl⟩:=y;exact .inr ⟨k,x,rfl,rfl,hsc _ ψ⟩};cases y
    have d:((hi=none/\mx=none/\b=len)\/∃k x,hi=some (.c (.v (.int k x)))/\b=x.toNat/\(0<=x/\x<=(a:Int))):=by unfold Wh at z;split at z;{rename_i k x;simp only [ā,Ŗ] at z;obtain ⟨rfl,rfl⟩:=z;exact .inr ⟨k,x,rfl,rfl,hsc _ ψ⟩};{simp only [ā,Ŗ] at z;exact .inl ⟨rfl,rfl,z.2.symm⟩};cases z
    have e:((lo=none/\f=none)\/∃k x,lo=some (.c (.v (.int k x)))/\f=some x.toNat/\(0<=x/\x<=(b:Int))):=by unfold qLow at E;split at E;{simp only [ā,Ŗ] at E;exact .inl ⟨rfl,E.2.symm⟩};{rename_i k x;simp only [ā,Ŗ] at E;obtain ⟨rfl,rfl⟩:=E;exact .inr ⟨k,x,rfl,rfl,hsc _ ψ⟩};cases E
    clear y z E hsc
    rcases hm with ⟨rfl,rfl⟩|⟨n,o,rfl,rfl,b1⟩<;>rcases d with ⟨rfl,F,rfl⟩|⟨k2,M,rfl,rfl,b2⟩<;>rcases e with ⟨rfl,rfl⟩|⟨N,O,rfl,rfl,b3⟩ <;>
     (try cases F) <;>
     simp only [Instr.sliceBounds,Option.map_none,Wj2,SV.den,C.den,Sem.run_bind,Sem.run_pure,Result.andThen_ok,Wq5,Qp0,Option.isSome_none,Option.isSome_some,Ï,Ő,Ð] <;>
     (repeat (rw [Rw _ ξ];simp only [Result.andThen_ok]))
def OL (hT:eA.ok P T){t:TypeId}{i:TI}(hi:pV P t=some i){e:TypeId}(Z:i.k=.slice e){ei:TI}(he:aI T e=some ei){x:SV}{lo O mx:Option SV}{sc:zA Prop}{v:SV}(h:yQ ei.size x lo O mx=.ret sc v)(hsc:∀p∈sc,p):(Instr.sliceAt t (x.den β) (lo.map (SV.den β)) (O.map (SV.den β)) (mx.map (SV.den β))).run P w=.ok (v.den β) w/\∀s∈v.ids,s∈x.ids:=by have ⟨info,d,z,y,j,A,u,B,D,E⟩:=aP hi;have ⟨F,G,H,n,I,J,K,r,L,M⟩:=aP (hT _ _ he);rw [u] at Z;obtain rfl:=bu Z;have a:∀p:OA,p.map (λx=>x.add 0)=p:=by{intro p;cases p<;>simp [Addr.add]};unfold yQ at h;split at h;{rename_i N len c;split at h;{rename_i f q m b;cases h;have:=kh (P:=P) (w:=w) (β:=β) b hsc;refine ⟨?_,λs g=>g⟩;simp only [Instr.sliceAt,Instr.slice,SV.den,C.den,Sem.run_bind,aj j,Result.andThen_ok,this,aU n,Sem.run_pure,Wq5,ŝ,Wj3,a,ite_self]};{rename_i f l q m b;cases h;have:=kh (P:=P) (w:=w) (β:=β) b hsc;refine ⟨?_,λs g=>g⟩;simp only [Instr.sliceAt,Instr.slice,SV.den,C.den,Sem.run_bind,aj j,Result.andThen_ok,this,aU n,Sem.run_pure,Qp0,r];rfl};cases h};{rename_i s o len c;split at h;{rename_i f q m b;cases h;have:=kh (P:=P) (w:=w) (β:=β) b hsc;refine ⟨?_,λs g=>by simpa [SV.ids,C.ids] using g⟩;simp only [Instr.sliceAt,Instr.slice,SV.den,C.den,Sem.run_bind,aj j,Result.andThen_ok,this,aU n,Sem.run_pure,Wq5,ŝ,Wj3,a,ite_self]};{rename_i f l q m b;cases h;have:=kh (P:=P) (w:=w) (β:=β) b hsc;refine ⟨?_,λs g=>by simpa [SV.ids,C.ids] using g⟩;simp only [Instr.sliceAt,Instr.slice,SV.den,C.den,Sem.run_bind,aj j,Result.andThen_ok,this,aU n,Sem.run_pure,Qp0,r];congr 2;unfold qO;split<;>simp [gZ]};cases h};{rename_i s len c;split at h;{split at h;{rename_i f q m b;cases h;have hm:m=c:=by{unfold tA at b;simp only [Zj] at b;grind};have:=kh (P:=P) (w:=w) (β:=β) b hsc;refine ⟨?_,λs g=>by simpa [SV.ids,C.ids] using g⟩;simp only [Instr.sliceAt,Instr.slice,SV.den,C.den,Sem.run_bind,aj j,Result.andThen_ok,this,aU n,Sem.run_pure,Wq5,ŝ,Wj3,a,ite_self,hm]};cases h};cases h};cases h
theorem fH {s:Sem um}{v:um}{w':World}(h:s.run P w=.ok v w'):(do pure (Next.value (<-s)):Sem Next).run P w=.ok (.value v) w':=by simp [h]
def run_u {s:Sem Unit}{w':World}(h:s.run P w=.ok () w'):(do s;pure Next.skip:Sem Next).run P w=.ok .skip w':=by simp [h]
def yD {f:Int->Int->Int}{k:IntKind}{g:um->um->Sem um}(u:∀x y k',(g (.int k x) (.int k' y))=pure (.int k (f x y))):∀(r:zA SV)(x m:Int),ĭ f k x r=some m ->((r.map (SV.den β)).foldlM g (.int k x)).run P w=.ok (.int k m) w
 | [],x,m,h=>by simp only [ĭ,ā] at h;subst h;rfl
 | y::r,x,m,h=>by
  unfold ĭ at h;split at h
  ·rename_i e;cases e
  ·rename_i k' b z e;simp only [œ] at e;obtain ⟨rfl,rfl⟩:=e;split at h
   ·simp only [Ĺ,List.foldlM_cons,SV.den,C.den,u,pure_bind];exact yD u r _ m h
   ·cases h
  ·cases h
def QV:∀{cs:zA C} {l:zA (OA×Nat×Nat)} {k:Nat},QU cs=some l->k<l.length->cs[k]?=some (.v (.slice (l.getD k (none,0,0)).1 (l.getD k (none,0,0)).2.1 (l.getD k (none,0,0)).2.2))
 | [],l,k,h,u=>by cases h;cases u
 | c::r,l,k,h,u=>by
  unfold QU at h;split at h
  ·cases ‹_=[]›
  ·rename_i p n d z e;cases e;split at h
   ·rename_i l' y;cases h
    cases k with
    | zero=>rfl
    | succ k=>simpa using QV y (by simpa using u)
   ·cases h
  ·cases h
def zJ {d:TypeDesc}(h:nQ d=.str):d=.string:=by cases d<;>simp_all [nQ]
def I7 {b:Builtin}{xs:zA SV}{t:TypeId}{ts:zA TypeId}{ty:TypeId}{cs:Array ut}{i:TI}(hi:pV P t=some i){sc:zA Prop}{v:SV}(h:oM b i.k xs=.ret sc v):(builtin b (t::ts).toArray ty cs (xs.map (SV.den β)).toArray).run P w=.ok (.value (v.den β)) w/\v.ids=[]:=by have ⟨info,d,z,u,l,A,n,B,D,E⟩:=aP hi;unfold oM at h;split at h;{cases h};rename_i x r;split at h;{split at h;{rename_i e p m c j;rw [n] at j;obtain rfl:=bu j;cases h;refine ⟨?_,rfl⟩;simp [builtin,Builtin.len_,aj l,SV.den,C.den,goInt]};{rename_i e s o m c j;rw [n] at j;obtain rfl:=bu j;cases h;refine ⟨?_,rfl⟩;simp [builtin,Builtin.len_,aj l,SV.den,C.den,goInt]};{rename_i e s m c j;rw [n] at j;obtain rfl:=bu j;cases h;refine ⟨?_,rfl⟩;simp [builtin,Builtin.len_,aj l,SV.den,C.den,goInt]};{rename_i s j;rw [n] at j;obtain rfl:=zJ j;cases h;refine ⟨?_,rfl⟩;simp [builtin,Builtin.len_,aj l,SV.den,C.den,goInt]};cases h};{split at h;{rename_i e p m c j;rw [n] at j;obtain rfl:=bu j;cases h;refine ⟨?_,rfl⟩;simp [builtin,Builtin.cap_,aj l,SV.den,C.den,goInt]};{rename_i e s o m c j;rw [n] at j;obtain rfl:=bu j;cases h;refine ⟨?_,rfl⟩;simp [builtin,Builtin.cap_,aj l,SV.den,C.den,goInt]};{rename_i e s m c j;rw [n] at j;obtain rfl:=bu j;cases h;refine ⟨?_,rfl⟩;simp [builtin,Builtin.cap_,aj l,SV.den,C.den,goInt]};cases h};{split at h;{rename_i k a;split at h;{rename_i m hm;cases h;refine ⟨?_,rfl⟩;have:=yD (P:=P) (w:=w) (β:=β) (f:=cM) (k:=k) (g:=Builtin.min2) (λx y q=>by simp [Builtin.min2,cM]) r a m hm;simp [builtin,Builtin.min_,SV.den,C.den] at this ⊢;rw [this];rfl};cases h};cases h};{split at h;{rename_i k a;split at h;{rename_i m hm;cases h;refine ⟨?_,rfl⟩;have:=yD (P:=P) (w:=w) (β:=β) (f:=ct) (k:=k) (g:=Builtin.max2) (λx y q=>by simp [Builtin.max2,ct]) r a m hm;simp [builtin,Builtin.max_,SV.den,C.den] at this ⊢;rw [this];rfl};cases h};cases h};cases h
def Uy {x:ut×zA C}{y:SV}(h:yx x=some y):kT β x=y.den β/\∀s∈y.ids,s∈x.2.flatMap C.ids:=by
 obtain ⟨b,cs⟩:=x
 cases b with
 | true=>simp only [yx,ā] at h;subst h;exact ⟨rfl,λs a=>a⟩
 | false=>
  match cs,h with
  | [],h=>simp [yx] at h
  | [c],h=>simp only [yx,ā] at h;subst h;exact ⟨rfl,λs a=>by simpa [SV.ids] using a⟩
  | _::_::_,h=>simp [yx] at h
def zU:∀(xs:zA SV)(ss:zA Nat),Di xs=some ss->xs.map (SV.den β)=(ss.map λs=>Value.pointer (some ⟨β s,0,none⟩))/\∀s∈ss,∃x∈xs,s∈x.ids
 | [],ss,h=>by simp only [Di,ā] at h;subst h;exact ⟨rfl,λs u=>by cases u⟩
 | x::r,ss,h=>by
  unfold Di at h;split at h
  ·rename_i e;cases e
  ·rename_i s y e;simp only [œ] at e;obtain ⟨rfl,rfl⟩:=e;split at h
   ·rename_i l b;simp only [ā] at h;subst h;have ⟨d,g⟩:=zU r l b;refine ⟨by simp [d,SV.den,C.den],λf a=>?_⟩;rcases ç.1 a with rfl|a
    ·exact ⟨.c (.ptr f 0),ψ,by simp [SV.ids,C.ids]⟩
    grind
   ·cases h
  ·cases h
def Db (u:ß n V0 bU β0 st β a w V){x:Option Operand}{v:Option SV}(h:IW st.bQ x=some v):x.map a.eval=v.map (SV.den β):=by (cases x with|none=>{simp only [IW,ā] at h;subst h;rfl}|some o=>{simp only [IW] at h;grind [u.eval]})
def tu {x y:SV}(u:Ē st x)(h:∀s∈y.ids,s∈x.ids):Ē st y:=λs a=>u s (h s a)
theorem qf {bx:Nat->Option aZ}{t:TypeId}{x:SV}:qe T bx t x=.fail\/∃sc s b,qe T bx t x=.Ax sc s b:=by
 unfold qe;split<;>(try split)<;>(try split)<;>(try split)<;>(try split)<;>(try split)<;>first|exact .inl rfl|exact .inr ⟨_,_,_,rfl⟩
def OJ {bx:Nat->Option aZ}{t:TypeId}{x:SV}{sc:zA Prop}{v:SV}(h:qe T bx t x=.ret sc v):False:=by grind [qf]
def LI {bx:Nat->Option aZ}{e:TypeId}{u:TI}{b x:SV}{sc:zA Prop}{v:SV}(h:cX bx e u b x=.ret sc v):False:=by unfold cX at h;grind
def S0 (hT:eA.ok P T)(E:ß n V0 bU β0 st β a w V){o:Oper}{sc:zA Prop}{v:SV}(h:aW T st.bQ st.boxes o.op=.ret sc v)(hsc:∀p∈sc,p):(execOp a.eval o).run P w=.ok (.value (v.den β)) w/\Ē st v:=by unfold aW at h;split at h;(case h_1 op x hop=>split at h;{rename_i y hy;cases h;refine ⟨?_,E.live hy⟩;simp only [execOp,hop,E.eval hy];rfl};{cases h});(case h_2 op x hop=>split at h;{rename_i y hy;cases h;refine ⟨?_,E.live hy⟩;simp only [execOp,hop,E.eval hy];rfl};{cases h});(case h_3 op c x y hop=>split at h;{rename_i hc;split at h;{rename_i z hz;cases h;refine ⟨?_,E.live hz⟩;simp [execOp,hop,E.eval hz,E.eval hc,SV.den,C.den,asBool]};cases h};{rename_i hc;split at h;{rename_i z hz;cases h;refine ⟨?_,E.live hz⟩;simp [execOp,hop,E.eval hz,E.eval hc,SV.den,C.den,asBool]};cases h};{cases h});(case h_4=>split at h<;>cases h);(case h_5=>split at h;{split at h<;>cases h};{cases h});(case h_6 op t parts hop=>split at h;{rename_i i ps hi hps;have hi:=hT _ _ hi;split at h;{rename_i fs O;split at h;{rename_i pl hpl;split at h;{rename_i cs hcs;cases h;have ⟨N,M⟩:=HW hT E hi O hps hpl hcs hsc;refine ⟨?_,M⟩;simp only [execOp,hop];exact fH N};cases h};cases h};{rename_i m e O;split at h;{rename_i ei KY;split at h;{rename_i cs hcs;cases h;have ⟨N,M⟩:=Kj hT E hi O hps KY hcs hsc;refine ⟨?_,M⟩;simp only [execOp,hop];exact fH N};cases h};cases h};cases h};{cases h});(case h_7=>split at h;{split at h;{split at h;{split at h;{split at h<;>cases h};cases h};cases h};cases h};{cases h});(case h_8 op t x hop=>split at h;{rename_i i y hi hy;have ⟨N,M⟩:=Hi E (hT _ _ hi) h;refine ⟨?_,M⟩;simp only [execOp,hop,E.eval hy];exact fH N};{cases h});(case h_9=>split at h;{unfold jA at h;split at h;{split at h;{split at h;{split at h<;>cases h};{split at h<;>cases h};{split at h;{cases h};split at h<;>cases h};cases h};cases h};cases h};{cases h});(case h_10 op x hop=>split at h;{rename_i s o F;cases h;refine ⟨?_,E.live F⟩;simp [execOp,hop,E.eval F,SV.den,C.den]};{rename_i p F;cases h;obtain ⟨ad,rfl⟩:=Qd7.1 (hsc (p.isSome=true) ψ);refine ⟨?_,E.live F⟩;simp [execOp,hop,E.eval F,SV.den,C.den]};{cases h});(case h_11 op bop xt x y yt hop=>split at h;{rename_i p q hp hq;have key:(q=.v .nilIface->∃c,y=.const c)->I6 T bop xt p q=.ret sc v->(execOp a.eval o).run P w=.ok (.value (v.den β)) w/\Ē st v:=by{intro hc h;have ⟨N,M⟩:=Wg (P:=P) (w:=w) (β:=β) hT (ox:=x) (oy:=y) h hsc hc;refine ⟨?_,cB M⟩;simp only [execOp,hop,E.eval hp,E.eval hq];exact fH N};split at h;{split at h;{exact key (λ_=>⟨_,rfl⟩) h};cases h};rename_i hne;exact key (λe=>Å e hne) h};{cases h});(case h_12 op t x hop=>split at h;{rename_i F;cases h;refine ⟨?_,cB rfl⟩;simp [execOp,hop,E.eval F,SV.den,C.den,Op.unary]};{rename_i F;cases h;refine ⟨?_,cB rfl⟩;simp [execOp,hop,E.eval F,SV.den,C.den,Op.unary]};{rename_i b F;cases h;refine ⟨?_,cB rfl⟩;simp [execOp,hop,E.eval F,SV.den,C.den,Op.unary]};{cases h});(case h_13 op t x hop=>split at h;{rename_i k m F;cases h;refine ⟨?_,cB rfl⟩;simp [execOp,hop,E.eval F,SV.den,C.den,Op.unary,Op.intBits,b_]};{cases h});(case h_14 op t x hop=>split at h;{rename_i k m F;cases h;refine ⟨?_,cB rfl⟩;simp [execOp,hop,E.eval F,SV.den,C.den,Op.unary,Op.intArith]};{cases h});(case h_15 op src dst x hop=>split at h;{rename_i i0 i k m hi0 hi F;obtain ⟨info0,d0,z0,g1,g2,-⟩:=aP (hT _ _ hi0);have ⟨info,d,z,N,M,h3,h4,h5,h6,h7⟩:=aP (hT _ _ hi);split at h;{rename_i k' O;rw [h4] at O;obtain rfl:=KN O;cases h;refine ⟨?_,cB rfl⟩;simp only [execOp,hop,E.eval F];refine fH ?_;simp only [convert,Sem.run_bind,aj g2,aj M,Result.andThen_ok,SV.den,C.den];cases d0<;>rfl};cases h};{cases h});(case h_16 op f first caps hop=>split at h;{rename_i hf;split at h;{rename_i xs hxs;split at h;{rename_i ss hss;cases h;have ⟨N,M⟩:=iM E _ _ hxs;have ⟨h3,h4⟩:=zU (β:=β) _ _ hss;refine ⟨?_,λs Z=>?_⟩;{have e1:first=#[]:=by{apply ŀ;exact hf};have e2:caps.map a.eval=(ss.map λs=>Value.pointer (some ⟨β s,0,none⟩)).toArray:=by{apply ŀ;rw [Qf1,N,h3]};simp [execOp,hop,Instr.makeFunc,e1,e2,SV.den,C.den]};have ⟨x,F,hs'⟩:=h4 s Z;exact M x F s hs'};cases h};cases h};{rename_i x hf;split at h;{rename_i cs hc F;split at h;{rename_i vs hvs;cases h;have e1:first=#[x]:=by{apply ŀ;exact hf};have e2:caps=#[]:=by{apply ŀ;exact hc};have e3:=E.eval F;simp only [SV.den,Gn (β:=β) hvs] at e3;exact ⟨by simp [execOp,hop,Instr.makeFunc,e1,e2,e3,SV.den,C.den],λs Z=>by simp [SV.ids,C.ids] at Z⟩};cases h};cases h};{cases h});(case h_17=>split at h;{unfold Hj at h;split at h;{split at h;{split at h;{split at h;{split at h<;>cases h};cases h};cases h};cases h};cases h};{cases h});(case h_18 op t x lo hi mx hop=>split at h;{rename_i i xv l h' m hi' F hl hh hm;split at h;{rename_i e O;split at h;{rename_i ei KY;have ⟨N,M⟩:=OL (P:=P) (w:=w) (β:=β) hT (hT _ _ hi') O KY h hsc;refine ⟨?_,tu (E.live F) M⟩;simp only [execOp,hop,E.eval F,Db E hl,Db E hh,Db E hm];exact fH N};cases h};cases h};{cases h});(case h_19 op t x f hop=>split at h;{rename_i i xv hi F;have hi:=hT _ _ hi;split at h;{rename_i fs O;split at h;{rename_i ft off hf;split at h;{rename_i fi hfi;split at h;{cases h};rename_i Z;have Z:fi.size≠0:=λe=>Z (beq_eq.2 e);split at h;{rename_i s o';cases h;have:=zM (w:=w) hT hi O hf hfi Z ⟨β s,o',none⟩;rw [gZ] at this;refine ⟨?_,tu (E.live F) (λs Z=>by simpa [SV.ids,C.ids] using Z)⟩;simp only [execOp,hop,E.eval F];exact fH this};{rename_i p;cases h;obtain ⟨ad,rfl⟩:=Qd7.1 (hsc (p.isSome=true) ψ);have:=zM (w:=w) hT hi O hf hfi Z ad;refine ⟨?_,cB rfl⟩;simp only [execOp,hop,E.eval F];exact fH this};cases h};cases h};cases h};cases h};{cases h});(case h_20 op t x f hop=>split at h;{rename_i i cs hi F;have hi:=hT _ _ hi;split at h;{rename_i fs O;split at h;{rename_i ft off hf;split at h;{rename_i fi hfi;have ⟨g1,g2⟩:=Sj (P:=P) (w:=w) (β:=β) hT hi O hf hfi (cs:=cs);have hagg:xW fi.k=true->Q.ret [] (.agg ((cs.drop off).take fi.size))=.ret sc v->(execOp a.eval o).run P w=.ok (.value (v.den β)) w/\Ē st v:=by{intro hk' h;cases h;refine ⟨?_,tu (E.live F) λs Z=>?_⟩;{simp only [execOp,hop,E.eval F];exact fH (g1 hk')};have ⟨c,hc,Z⟩:=č.1 Z;exact wE (Qg9 (Qn7 hc)) Z};split at h;{rename_i hk';exact hagg (by rw [hk'];rfl) h};{rename_i hk';exact hagg (by rw [hk'];rfl) h};rename_i hk1 hk2;have hk':xW fi.k=false:=by{(cases hik:fi.k<;>first|rfl|exact Å hik (hk1 _)|exact Å hik (hk2 _ _))};split at h;{rename_i c hc;cases h;refine ⟨?_,tu (E.live F) λs Z=>?_⟩;{simp only [execOp,hop,E.eval F];exact fH (g2 c hk' hc)};exact wE (Ď hc) Z};cases h};cases h};cases h};cases h};{cases h});(case h_21 op t x ix hop=>split at h;{rename_i i xv iv hi F hix;have ⟨N,M⟩:=Dl (P:=P) (w:=w) (β:=β) hT (hT _ _ hi) h hsc;refine ⟨?_,tu (E.live F) M⟩;simp only [execOp,hop,E.eval F,E.eval hix];exact fH N};{cases h});(case h_22 op x j hop=>split at h;{rename_i xs F;split at h;{rename_i y hy;split at h;{rename_i z hz;cases h;have ⟨N,M⟩:=Uy (β:=β) hz;refine ⟨?_,tu (E.live F) λs Z=>č.2 ⟨y,Ď hy,M s Z⟩⟩;have:(xs.map (kT β))[j]?=some (v.den β):=by{rw [Wz7,hy];simp [N]};simp [execOp,hop,E.eval F,SV.den,Instr.extract,hy,N]};cases h};cases h};{cases h});(case h_23 op c hop=>split at h;{split at h;{split at h;{split at h;{split at h;{exact (LI h).elim};cases h};cases h};cases h};cases h};{split at h;{exact (OJ h).elim};cases h};{rename_i b hb hb2 hc;split at h;{rename_i xs t ts hxs hts;split at h;{rename_i i hi;have ⟨N,M⟩:=iM E _ _ hxs;have e1:c.argTypes=(t::ts).toArray:=by{apply ŀ;exact hts};have e2:c.args.map a.eval=(xs.map (SV.den β)).toArray:=by{apply ŀ;rw [Qf1];exact N};have ⟨k1,k2⟩:=I7 (P:=P) (w:=w) (β:=β) (ts:=ts) (ty:=o.type) (cs:=c.args.map λ|.const _=>true|_=>false) (hT _ _ hi) h;refine ⟨?_,cB k2⟩;simp only [execOp,hop,resolve,hc,pure_bind,invoke,e1,e2];exact k1};cases h};cases h};{cases h});(case h_24 op t x ix hop=>split at h;{rename_i i s k m hi F hix;split at h;{rename_i O;have ⟨info,d,z,N,M,h3,h4,h5,h6,h7⟩:=aP (hT _ _ hi);rw [h4] at O;obtain rfl:=zJ O;cases h;have hb:=hsc _ (õ.2 rfl);refine ⟨?_,cB rfl⟩;have hlt:m.toNat<s.size:=ω;have e:s.data.toList.getD m.toNat 0=s[m.toNat]'hlt:=by{have:s.data.toList[m.toNat]?=some (s[m.toNat]'hlt):=by{rw [Array.getElem?_toList];exact Array.getElem?_eq_getElem (by simpa using hlt)};rw [Ę,this];rfl};simp only [execOp,hop,E.eval F,E.eval hix,SV.den,C.den];grind [fH,run_index_string]};cases h};{rename_i i cs k m hi F hix;unfold oN at h;split at h;{rename_i n e O;split at h;{rename_i ei l KY hl;split at h;{rename_i e2 hek;split at h;{rename_i hb;rw [Č] at hb;cases h;have hm:=hsc _ (õ.2 rfl);have ⟨info,d,z,N,M,h3,h4,h5,h6,h7⟩:=aP (hT _ _ hi);rw [h4] at O;obtain rfl:=rA O;have ⟨j_,ed,ez,e1,e2,e3,e4,e5,e6,e7⟩:=aP (hT _ _ KY);refine ⟨?_,cB rfl⟩;have b2:=beq_eq.1 hb.2;simp only [execOp,hop,E.eval F,E.eval hix];refine fH ?_;have es:m.toNat*j_.size=m.toNat:=by{rw [<-e5,(beq_eq.1 hb.1),Ģ]};simp only [Instr.index,SV.den,C.den,fM,Sem.run_bind,Result.andThen_ok,aj M,Sem.run_ite,Ä hm,aU e1,es];exact ((LA (w:=w) (β:=β) (hT _ _ KY) cs m.toNat).2 _ (by rw [hek];rfl) (QV hl (show m.toNat<l.length by omega)))};cases h};cases h};cases h};cases h};{cases h});(case h_25 op t x hop=>split at h;{rename_i i y hi F;have ⟨info,d,z,N,M,h3,h4,h5,h6,h7⟩:=aP (hT _ _ hi);unfold Dk at h;split at h;{cases h};rename_i O;split at h;{rename_i lY htup;cases h;refine ⟨?_,cB rfl⟩;simp only [execOp,hop,E.eval F];refine fH ?_;have hd:∀ms,d≠.interface ms:=λms e=>by{rw [e] at h4;exact O h4};have e2:y.den β=y.den λ_=>0:=SV.bZ λs Z=>by{rw [lY] at Z;cases Z};show (Instr.makeInterface t (y.den β)).run P w=.ok (.iface t (y.den λ_=>0)) w;rw [e2];generalize y.den (λ_=>0)=u;simp only [Instr.makeInterface,Sem.run_bind,aj M,Result.andThen_ok];(cases d<;>first|rfl|exact Å rfl (hd _))};cases h};{cases h});(case h_26=>cases h)
def SZ (hT:eA.ok P T)(E:ß n V0 bU β0 st β a w V){o:Oper}{sc:zA Prop}{b:aZ}{x:Nat->SV}(h:aW T st.bQ st.boxes o.op=.new sc b x)(hsc:∀p∈sc,p):∃v,(execOp a.eval o).run P w=.ok (.value v) (w.alloc (b.obj β))/\(∀d,v=(x d).den (cF β d w.heap.size)/\(x d).ids=[d])/\(∀s∈b.cs.ids,∃b',st.boxes s=some b'):=by have hx:∀d,SV.den (cF β d w.heap.size) (.c (.ptr d 0))=.pointer (some ⟨w.heap.size,0,none⟩):=λd=>by{simp [SV.den,C.den,bh]};have hy:∀d m c,SV.den (cF β d w.heap.size) (.c (.nN d 0 m c))=.slice (some ⟨w.heap.size,0,none⟩) m c:=λd m c=>by{simp [SV.den,C.den,bh]};unfold aW at h;split at h;(case h_1=>split at h<;>cases h);(case h_2=>split at h<;>cases h);(case h_3=>split at h<;>(try split at h)<;>cases h);(case h_4 op t hop=>split at h;{rename_i i hi;have ⟨info,d,z,Z,h2,h3,h4,h5,h6,h7⟩:=aP (hT _ _ hi);simp only [Q.new.injEq] at h;obtain ⟨rfl,rfl,rfl⟩:=h;have ⟨z1,z2⟩:=f_ (β:=β) h7;refine ⟨.pointer (some ⟨w.heap.size,0,none⟩),?_,λd=>⟨(hx d).symm,rfl⟩,λs u=>by rw [show æ.ids (.lit i.zero)=[] from z2] at u;cases u⟩;simp only [execOp,hop];refine fH ?_;simp only [Instr.alloc,Sem.run_bind,lF Z h3,Result.andThen_ok,newVar,newRow,run_newObj,Sem.run_pure,aZ.obj,æ.den,z1];rfl};{cases h});(case h_5 op t y hop=>split at h;{rename_i v hv;split at h;{cases h};rename_i hnt;simp only [Q.new.injEq] at h;obtain ⟨rfl,rfl,rfl⟩:=h;obtain ⟨c1,-⟩:=SV.yu (β:=β) hnt hsc;refine ⟨.pointer (some ⟨w.heap.size,0,none⟩),?_,λd=>⟨(hx d).symm,rfl⟩,λs u=>E.live hv s (SV.yv hnt u)⟩;simp only [execOp,hop,E.eval hv];refine fH ?_;simp only [Instr.box,newVar,newRow,Sem.run_bind,run_newObj,Result.andThen_ok,Sem.run_pure,c1,aZ.obj,æ.den];rfl};{cases h});(case h_6=>split at h;{grind};{cases h});(case h_7 op t len parts hop=>split at h;{rename_i i ps hi hps;split at h;{rename_i e hk;split at h;{rename_i F KY;split at h;{rename_i M;simp only [Č,beq_eq,Qd3] at M;obtain ⟨⟨c1,c2⟩,N⟩:=M;have N:F.size≠0:=λe=>by{rw [e] at N;cases N};split at h;{rename_i cs hcs;simp only [Q.new.injEq] at h;obtain ⟨rfl,rfl,rfl⟩:=h;have ⟨Z,h2⟩:=BR hT E (hT _ _ hi) hk hps KY (Ŕ c1) c2 N hcs hsc;exact ⟨_,by simp only [execOp,hop];exact fH Z,λd=>⟨(hy d _ _).symm,rfl⟩,h2⟩};cases h};cases h};cases h};cases h};{cases h});(case h_8=>split at h;{unfold mh at h;grind};{cases h});(case h_9=>split at h;{unfold jA at h;grind};{cases h});(case h_10=>split at h<;>cases h);(case h_11=>split at h;{have key:∀{op xt} {p q:C},I6 T op xt p q≠.new sc b x:=by{intro op xt p q h;have hi:∀k m m',rG op k m m'≠.new sc b x:=λk m m' h=>by{cases op<;>cases h};have hn:∀neg k,I8 neg k p q≠.new sc b x:=λneg k h=>by{unfold I8 at h;split at h<;>(try split at h)<;>(try split at h)<;>cases h};unfold I6 at h;grind};grind};{cases h});(case h_12=>split at h<;>cases h);(case h_13=>split at h<;>cases h);(case h_14=>split at h<;>cases h);(case h_15=>split at h;{split at h<;>cases h};{cases h});(case h_16=>split at h<;>(try split at h)<;>(try split at h)<;>cases h);(case h_17 op t l c hop=>split at h;{rename_i i lv cv hi hl M;unfold Hj at h;split at h;{rename_i e hk;split at h;{rename_i F KY;split at h;{rename_i k1 m1 k2 m2;split at h;{rename_i zs hzs;split at h;{cases h};rename_i hcond;simp only [Qf9,beq_eq,Qd3,not_or] at hcond;obtain ⟨⟨g1,g2⟩,O⟩:=hcond;simp only [Q.new.injEq] at h;obtain ⟨rfl,rfl,rfl⟩:=h;have O:F.size=zs.length:=by{rcases hb:Nat.beq F.size zs.length with _|_;{rw [hb] at O;exact Å rfl O};exact beq_eq.1 hb};refine ⟨_,?_,λd=>⟨(hy d _ _).symm,rfl⟩,λs u=>by simp [æ.ids] at u⟩;simp only [execOp,hop,E.eval hl,E.eval M];exact fH (Fe (P:=P) (w:=w) (β:=β) hT (hT _ _ hi) hk KY (k1:=k1) (k2:=k2) (l:=m1) (c:=m2) g1 g2 hzs O (hsc _ ψ) (hsc _ ψ) (hsc _ ψ))};cases h};cases h};cases h};cases h};{cases h});(case h_18=>split at h;{split at h;{split at h;{unfold yQ at h;split at h<;>(try split at h)<;>(try split at h)<;>cases h};cases h};cases h};{cases h});(case h_19=>split at h;{grind};{cases h});(case h_20=>split at h;{split at h<;>grind};{cases h});(case h_21=>split at h;{unfold jz at h;grind};{cases h});(case h_22=>split at h<;>(try split at h)<;>(try split at h)<;>cases h);(case h_23=>split at h;{split at h;{split at h;{split at h;{split at h;{unfold cX at h;grind};cases h};cases h};cases h};cases h};{grind [qf]};{split at h;{split at h;{unfold oM at h;grind};cases h};cases h};{cases h});(case h_24=>split at h;{split at h<;>cases h};{unfold oN at h;grind};{cases h});(case h_25=>split at h;{unfold Dk at h;split at h;{cases h};split at h<;>cases h};{cases h});(case h_26=>cases h)
def eN:Q->Nat
 | .fail=>0|.ret ..=>1|.new ..=>2|.Ax ..=>3|.rd ..=>4|.uz ..=>5|.app ..=>6|.yL ..=>6
def vE {op:BinOp}{k:IntKind}{x y:Int}:eN (rG op k x y)<=1:=by cases op<;>exact Ù _
def Mi {neg:ut}{k:TK}{x y:C}:eN (I8 neg k x y)<=1:=by
 unfold I8;split<;>(try split)<;>(try split)<;>first|exact Ù _|exact ä _
def uB {i:TI}{cs:zA C}{k:Int}:eN (oN T i cs k)<=1:=by unfold oN;split;{split;{split;{(split<;>first|exact Ù _|exact ä _)};exact ä _};exact ä _};exact ä _
def xB {op:BinOp}{u:TypeId}{x y:C}:eN (I6 T op u x y)<=1:=by unfold I6;split;{split;{split;{split;{exact vE};{exact vE};split;{exact vE};exact ä _};exact ä _};{split;{(split<;>first|exact Ù _|exact ä _)};exact ä _};split;{exact Mi};{exact Mi};exact ä _};exact ä _
def DR {sz:Nat}{x:SV}{lo hi mx:Option SV}:eN (yQ sz x lo hi mx)<=1:=by
 unfold yQ;split<;>(try split)<;>(try split)<;>first|exact Ù _|exact ä _
def sC {i:TI}{x u:SV}:eN (jz T i x u)<=1:=by
 unfold jz;split<;>(try split)<;>(try split)<;>(try split)<;>first|exact Ù _|exact ä _
def xC {b:Builtin}{k:TK}{xs:zA SV}:eN (oM b k xs)<=1:=by
 unfold oM;split<;>(try split)<;>(try split)<;>(try split)<;>first|exact Ù _|exact ä _
def Tf {i:TI}{l c:SV}:eN (Hj T i l c)=0\/eN (Hj T i l c)=2:=by
 unfold Hj;split<;>(try split)<;>(try split)<;>(try split)<;>(try split)<;>first|exact .inl rfl|exact .inr rfl
theorem DS {bx:Nat->Option aZ}{i:TI}{a x:SV}:eN (jA bx i a x)=0\/eN (jA bx i a x)=3:=by
 unfold jA;split<;>(try split)<;>(try split)<;>(try split)<;>(try split)<;>first|exact .inl rfl|exact .inr rfl
theorem HC {bx:Nat->Option aZ}{i:TI}{x:SV}:eN (mh bx i x)=0\/eN (mh bx i x)=1\/eN (mh bx i x)=4\/eN (mh bx i x)=5:=by
 unfold mh;split<;>(try split)<;>(try split)<;>(try split)<;>first|exact .inl rfl|exact .inr (.inl rfl)|exact .inr (.inr (.inl rfl))|exact .inr (.inr (.inr rfl))
def su {bx:Nat->Option aZ}{e:TypeId}{u:TI}{b x:SV}:eN (cX bx e u b x)=0\/eN (cX bx e u b x)=6:=by unfold cX;split;{exact .inl rfl};split;{exact .inl rfl};dsimp only;split;{exact .inl rfl};(split<;>(try split)<;>(try split)<;>first|exact .inl rfl|exact .inr rfl)
theorem DQ {bx:Nat->Option aZ}{t:TypeId}{x:SV}:eN (qe T bx t x)=0\/eN (qe T bx t x)=3:=by
 rcases qf (T:=T) (bx:=bx) (t:=t) (x:=x) with e|⟨_,_,_,e⟩<;>rw [e]<;>first|exact .inl rfl|exact .inr rfl
def iN {ρ:Operand->Option SV}{bx:Nat->Option aZ}{op:Op}:(eN (aW T ρ bx op)=3->((∃t a x,op=.store t a x)\/∃c,op=.call c/\c.callee=.builtin .clear))/\(eN (aW T ρ bx op)=4\/eN (aW T ρ bx op)=5->∃t a,op=.load t a)/\(eN (aW T ρ bx op)=6->∃c,op=.call c/\c.callee=.builtin .append):=by
 have u:∀{q:Q},eN q<=1->(eN q=3->((∃t a x,op=.store t a x)\/∃c,op=.call c/\c.callee=.builtin .clear))/\(eN q=4\/eN q=5->∃t a,op=.load t a)/\(eN q=6->∃c,op=.call c/\c.callee=.builtin .append):=χ
 have y:∀{q:Q},eN q=0\/eN q=2->(eN q=3->((∃t a x,op=.store t a x)\/∃c,op=.call c/\c.callee=.builtin .clear))/\(eN q=4\/eN q=5->∃t a,op=.load t a)/\(eN q=6->∃c,op=.call c/\c.callee=.builtin .append):=by intro q h;exact ⟨ω,ω,ω⟩
 unfold aW;split
 case h_8=>
  split
  ·grind [HC]
  ·exact u (ä _)
 case h_9=>
  split
  ·grind [DS]
  ·exact u (ä _)
 case h_11=>
  split
  ·split;{split;{exact u xB};exact u (ä _)};exact u xB
  ·exact u (ä _)
 case h_17=>
  split
  ·exact y Tf
  ·exact u (ä _)
 case h_18=>
  split
  ·split;{split;{exact u DR};exact u (ä _)};exact u (ä _)
  ·exact u (ä _)
 case h_21=>
  split
  ·exact u sC
  ·exact u (ä _)
 case h_23 c=>
  split
  ·rename_i E;refine ⟨λh=>?_,λh=>?_,λ_=>⟨c,rfl,E⟩⟩;{exfalso;(split at h<;>(try split at h)<;>(try split at h)<;>(try split at h)<;>first|(rcases su (bx:=bx) with z|z<;>(rw [z] at h;cases h))|cases h)};exfalso;(split at h<;>(try split at h)<;>(try split at h)<;>(try split at h)<;>first|(rcases su (bx:=bx) with z|z<;>(rw [z] at h;rcases h with h|h<;>cases h))|(rcases h with h|h<;>cases h))
  ·rename_i E;split;{grind [DQ]};exact u (ä _)
  ·split;{split;{exact u xC};exact u (ä _)};exact u (ä _)
  ·exact u (ä _)
 case h_24=>
  split
  ·split;{exact u (Ù _)};exact u (ä _)
  ·exact u uB
  ·exact u (ä _)
 case h_25=>
  split
  ·unfold Dk;split;{exact u (ä _)};split;{exact u (Ù _)};exact u (ä _)
  ·exact u (ä _)
 all_goals
  first
  | exact u (ä _)
  | ((repeat' split)<;>first|exact u (ä _)|exact u (Ù _)|exact y (.inr rfl))
def OK (hT:eA.ok P T)(hM:ß n V0 bU β0 st β a w V){t:TypeId}{x:SV}{sc:zA Prop}{s:Nat}{b:aZ}(h:qe T st.boxes t x=.Ax sc s b)(hsc:∀p∈sc,p)(ty:TypeId)(cs:Array ut):∃w',(builtin .clear #[t] ty cs #[x.den β]).run P w=.ok (.value (.tuple #[])) w'/\ß n V0 bU β0 (st.box s b) β a w' V:=by unfold qe at h;split at h;{rename_i i M;split at h;{rename_i e F;split at h;{rename_i r N;split at h;{rename_i q g o k c O;split at h;{rename_i j G H;split at h;{cases h};rename_i I;simp only [Q.Ax.injEq] at h;obtain ⟨rfl,rfl,rfl⟩:=h;simp only [Qf9,beq_eq,Į,not_or,Bool.not_eq_false,ħ] at I;obtain ⟨⟨c1,J⟩,c3⟩:=I;have ⟨info,d,z,h1,K,h3,R,h5,h6,h7⟩:=aP (hT _ _ M);have ⟨S,ed,A,U,e2,W,e4,X,e6,Y⟩:=aP (hT _ _ N);rw [R] at F;obtain rfl:=bu F;have ⟨L,z2⟩:=f_ (β:=β) Y;obtain ⟨d1,-⟩:=gO (β:=β) O;have Z:A.cells.size=S.size:=by{rw [<-L,d1];simp [<-X,J]};have a0:A.cells.toList=q:=by{rw [<-d1,<-L]};have hle:o+k*r.size<=j.length:=hsc _ ψ;have u:∀m,(vN m q).length=m*r.size:=λm=>by{rw [qm,J];simp [Ww8]};have B:∀v∈vN k q,v.oneCell'=true:=λv D=>by{rw [qm] at D;have ⟨l,hl,D⟩:=List.mem_flatten.1 D;grind};have f:=hM.row H dQ;have key:=run_storeCells_at (P:=P) (β g) o G (vN k q) 0 j.toArray w f (by simpa [u] using hle) B;simp only [ġ,u] at key;refine ⟨w.setRow (β g) (j.take o++vN k q++j.drop (o+k*r.size)).toArray,?_,hM.Ax H dQ (by intro s' E;simp [æ.ids] at E) (by rw [mo f];rfl) rfl rfl rfl⟩;have y:(Builtin.clear_ #[t] ty #[SV.den β (.c (.nN g o k c))]).run P w=.ok (.tuple #[]) (w.setRow (β g) (j.take o++vN k q++j.drop (o+k*r.size)).toArray):=by{(cases k with|zero=>{have e0:(j.take o++vN 0 q++j.drop (o+0*r.size)).toArray=j.toArray:=by{rw [qm];simp};rw [e0,setRow_self w (β g) j.toArray G (0,0) f];simp [Builtin.clear_,aj K,SV.den,C.den]}|succ k=>{have ek:(Builtin.zeroCells A.cells (k+1)).toList=vN (k+1) q:=by{grind [Builtin.zeroCells,xY,qm]};simp only [Ĝ] at key ⊢;simp [Builtin.clear_,aj K,SV.den,C.den,(lF U W w),ek,key]})};simp only [builtin];exact fH y};cases h};cases h};cases h};cases h};cases h
def S3 (hT:eA.ok P T)(F:ß n V0 bU β0 st β a w V){o:Oper}{sc:zA Prop}{s:Nat}{b:aZ}(h:aW T st.bQ st.boxes o.op=.Ax sc s b)(hsc:∀p∈sc,p):∃M w',(execOp a.eval o).run P w=.ok M w'/\(M=.skip\/∃v,M=.value v)/\ß n V0 bU β0 (st.box s b) β a w' V:=by rcases (iN (T:=T) (ρ:=st.bQ) (bx:=st.boxes) (op:=o.op)).1 (by rw [h];rfl) with ⟨t,y,x,d⟩|⟨c,d,k⟩;{rw [d] at h;simp only [aW] at h;split at h;{rename_i i C D l m e;have ⟨w',f,q⟩:=OM F (hT _ _ l) (F.live e) h hsc;refine ⟨.skip,w',?_,.inl rfl,q⟩;simp only [execOp,d,F.eval m,F.eval e];exact run_u f};cases h};obtain ⟨E,args,r⟩:=c;dsimp only at k;subst k;rw [d] at h;simp only [aW] at h;split at h;{rename_i x t g j;obtain ⟨f,-⟩:=iM F _ _ g;have u:r=#[t]:=by{apply ŀ;exact j};have z:args.map a.eval=#[x.den β]:=by{apply ŀ;rw [Qf1];exact f};have ⟨w',A,B⟩:=OK hT F h hsc o.type (args.map λ|.const _=>true|_=>false);refine ⟨.value (.tuple #[]),w',?_,.inr ⟨_,rfl⟩,B⟩;simp only [execOp,d,resolve,pure_bind,invoke,u,z];exact A};cases h
def Wl (hT:eA.ok P T)(u:ß n V0 bU β0 st β a w V){o:Oper}{p:OA}{sh:BH}(h:aW T st.bQ st.boxes o.op=.rd p sh){x:SV}{k:Prop}(z:x.ids=[])(E:(∃c,x=.c c/\∃s',sh=.one s')\/∃cs l,x=.agg cs/\sh=.agg l/\cs.length=l.length)(F:V.Zr p x k):(execOp a.eval o).run P w=.ok (.value (x.den β)) w/\k:=by obtain ⟨t,y,b⟩:=(iN (T:=T) (ρ:=st.bQ) (bx:=st.boxes) (op:=o.op)).2.1 (by rw [h];exact .inl rfl);rw [b] at h;simp only [aW] at h;split at h;{rename_i i m d e;unfold mh at h;split at h;{grind};{split at h;{rename_i f;simp only [Q.rd.injEq] at h;obtain ⟨rfl,rfl⟩:=h;have ⟨g,j⟩:=rd_run u (hT _ _ d) (beq_eq.1 f) z E F;refine ⟨?_,j⟩;simp only [execOp,b,u.eval e];exact fH g};cases h};cases h};cases h
def LJ (hT:eA.ok P T)(u:ß n V0 bU β0 st β a w V){o:Oper}{vs:zA um}{of size:Nat}{sh:BH}(h:aW T st.bQ st.boxes o.op=.uz vs of size sh){x:SV}(z:x.ids=[])(E:(∃c,x=.c c/\∃s',sh=.one s')\/∃cs l,x=.agg cs/\sh=.agg l/\cs.length=l.length)(F:ZA vs of size x):(execOp a.eval o).run P w=.ok (.value (x.den β)) w:=by obtain ⟨t,y,b⟩:=(iN (T:=T) (ρ:=st.bQ) (bx:=st.boxes) (op:=o.op)).2.1 (by rw [h];exact .inr rfl);rw [b] at h;simp only [aW] at h;split at h;{rename_i i m f g;unfold mh at h;split at h;{split at h;{grind};{rename_i d;simp only [Q.uz.injEq] at h;obtain ⟨rfl,rfl,rfl,rfl⟩:=h;have j:=Hk u (hT _ _ f) (.inl d) z E F;simp only [execOp,b,u.eval g];exact fH j};{rename_i d;split at h;{cases h};rename_i k;simp only [Q.uz.injEq] at h;obtain ⟨rfl,rfl,rfl,rfl⟩:=h;simp only [execOp,b,u.eval g];exact fH (Hk u (hT _ _ f) (.inr ⟨d,λe=>k (by rw [e];rfl)⟩) z E F)};cases h};{split at h<;>cases h};cases h};cases h
end
end Go.Eng
