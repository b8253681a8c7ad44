import Derived.Test.YtapnijmlbakblaaGreatDoorS2
set_option linter.unusedVariables false
open Go.IntKind (i64 u64 u32)
namespace Go.Eng
variable {P:Program} {T:cO} {n:Nat} {V0:View} {bA:Em} {β0:Nat->Nat} {st:St} {β:Nat->Nat} {a:Act} {w:World} {V:View}
theorem HT (hT:cO.ok P T)(hM:Mod n V0 bA β0 st β a w V){o:Oper}{sc:List Prop}{b:aO}{x:Nat->SV}(h:aH T st.a_ st.boxes o.op=.new sc b x)(hsc:∀p∈sc,p) :
  ∃v,(execOp a.eval o).run P w=.ok (.value v) (w.alloc (b.obj β))/\(∀d,v=(x d).den (cU β d w.heap.size)/\(x d).ids=[d])/\(∀s∈b.cs.ids,∃b',st.boxes s=some b'):=by
 have hx:∀d,SV.den (cU β d w.heap.size) (.c (.ptr d 0))=.pointer (some ⟨w.heap.size,0,none⟩):=fun d=>by simp [SV.den,C.den,aQ]
 have hy:∀d m c,SV.den (cU β d w.heap.size) (.c (.kI d 0 m c))=.slice (some ⟨w.heap.size,0,none⟩) m c:=fun d m c=>by simp [SV.den,C.den,aQ]
 unfold aH at h;split at h
 case h_1=>split at h<;>cases h
 case h_2=>split at h<;>cases h
 case h_3=>split at h<;>(try split at h)<;>cases h
 case h_4 op t hop=>
  split at h
  ·rename_i i hi;obtain ⟨info,d,z,h1,h2,h3,h4,h5,h6,h7⟩:=az (hT _ _ hi);simp only [Q.new.injEq] at h;obtain ⟨rfl,rfl,rfl⟩:=h;obtain ⟨z1,z2⟩:=dQ (β:=β) h7;refine ⟨.pointer (some ⟨w.heap.size,0,none⟩),?_,fun d=>⟨(hx d).symm,rfl⟩,fun s hs=>by rw [show Cells.ids (.lit i.zero)=[] from z2] at hs;cases hs⟩;simp only [execOp,hop];refine dE ?_;simp only [Instr.alloc,Sem.run_bind,iI h1 h3,Result.andThen_ok,newVar,newRow,run_newObj,Sem.run_pure,aO.obj,Cells.den,z1];rfl
  ·cases h
 case h_5 op t y hop=>
  split at h
  ·rename_i v hv;split at h
   ·cases h
   ·rename_i hnt;simp only [Q.new.injEq] at h;obtain ⟨rfl,rfl,rfl⟩:=h;obtain ⟨c1,-⟩:=SV.rj (β:=β) hnt hsc;refine ⟨.pointer (some ⟨w.heap.size,0,none⟩),?_,fun d=>⟨(hx d).symm,rfl⟩,fun s hs=>hM.live hv s (SV.rk hnt hs)⟩;simp only [execOp,hop,hM.eval hv];refine dE ?_;simp only [Instr.box,newVar,newRow,Sem.run_bind,run_newObj,Result.andThen_ok,Sem.run_pure,c1,aO.obj,Cells.den];rfl
  ·cases h
 case h_6=>
  split at h
  ·split at h
   ·split at h
    ·split at h<;>cases h
    ·cases h
   ·split at h
    ·split at h<;>cases h
    ·cases h
   ·cases h
  ·cases h
 case h_7 op t len parts hop=>
  split at h
  ·rename_i i ps hi hps;split at h
   ·rename_i e hk;split at h
    ·rename_i ei CL;split at h
     ·rename_i hc;simp only [Bool.and_eq_true,beq_eq,Bool.not_eq_eq_eq_not] at hc;obtain ⟨⟨c1,c2⟩,c3⟩:=hc;have c1:=Nat.le_of_ble_eq_true c1;have c3:ei.size≠0:=fun e=>by rw [e] at c3;cases c3
      split at h
      ·rename_i cs hcs;simp only [Q.new.injEq] at h;obtain ⟨rfl,rfl,rfl⟩:=h;obtain ⟨h1,h2⟩:=uO hT hM (hT _ _ hi) hk hps CL c1 c2 c3 hcs hsc;exact ⟨_,by simp only [execOp,hop];exact dE h1,fun d=>⟨(hy d _ _).symm,rfl⟩,h2⟩
      ·cases h
     ·cases h
    ·cases h
   ·cases h
  ·cases h
 case h_8=>
  split at h
  ·unfold jf at h;split at h
   ·split at h
    ·split at h
     ·split at h<;>cases h
     ·split at h<;>cases h
     ·split at h<;>cases h
    ·cases h
    ·split at h<;>cases h
    ·cases h
   ·split at h<;>cases h
   ·cases h
  ·cases h
 case h_9=>
  split at h
  ·unfold gH at h;split at h
   ·split at h
    ·split at h
     ·split at h<;>cases h
     ·split at h<;>cases h
     ·split at h
      ·cases h
      ·split at h<;>cases h
     ·cases h
    ·cases h
   ·cases h
  ·cases h
 case h_10=>split at h<;>cases h
 case h_11=>
  split at h
  ·have key:∀{op xt} {p q:C},Bm T op xt p q≠.new sc b x:=by
    intro op xt p q h;have hi:∀k m m',mq op k m m'≠.new sc b x:=fun k m m' h=>by cases op<;>cases h
    have hn:∀neg k,Bo neg k p q≠.new sc b x:=fun neg k h=>by
     unfold Bo at h;split at h<;>(try split at h)<;>(try split at h)<;>cases h
    unfold Bm at h;split at h
    ·split at h
     ·split at h
      ·split at h
       ·exact hi _ _ _ h
       ·exact hi _ _ _ h
       ·split at h
        ·exact hi _ _ _ h
        ·cases h
      ·cases h
     ·split at h
      ·split at h<;>cases h
      ·cases h
     ·split at h
      ·exact hn _ _ h
      ·exact hn _ _ h
      ·cases h
    ·cases h
   split at h
   ·split at h
    ·exact (key h).elim
    ·cases h
   ·exact (key h).elim
  ·cases h
 case h_12=>split at h<;>cases h
 case h_13=>split at h<;>cases h
 case h_14=>split at h<;>cases h
 case h_15=>
  split at h
  ·split at h<;>cases h
  ·cases h
 case h_16=>split at h<;>(try split at h)<;>(try split at h)<;>cases h
 case h_17 op t l c hop=>
  split at h
  ·rename_i i lv cv hi hl hc;unfold Ae at h;split at h
   ·rename_i e hk;split at h
    ·rename_i ei CL;split at h
     ·rename_i k1 m1 k2 m2;split at h
      ·rename_i zs hzs;split at h
       ·cases h
       ·rename_i hcond;simp only [Bool.or_eq_true,beq_eq,Bool.not_eq_eq_eq_not,not_or] at hcond;obtain ⟨⟨g1,g2⟩,g3⟩:=hcond;simp only [Q.new.injEq] at h;obtain ⟨rfl,rfl,rfl⟩:=h
        have g3:ei.size=zs.length:=by
         rcases hb:Nat.beq ei.size zs.length with _|_
         ·rw [hb] at g3;exact absurd rfl g3
         ·exact beq_eq.1 hb
        have hm:=yf (P:=P) (w:=w) (β:=β) hT (hT _ _ hi) hk CL (k1:=k1) (k2:=k2) (l:=m1) (c:=m2) g1 g2 hzs g3 (hsc _ (by simp)) (hsc _ (by simp)) (hsc _ (by simp));refine ⟨_,?_,fun d=>⟨(hy d _ _).symm,rfl⟩,fun s hs=>by simp [Cells.ids] at hs⟩;simp only [execOp,hop,hM.eval hl,hM.eval hc];exact dE hm
      ·cases h
     ·cases h
    ·cases h
   ·cases h
  ·cases h
 case h_18=>
  split at h
  ·split at h
   ·split at h
    ·unfold rL at h;split at h<;>(try split at h)<;>(try split at h)<;>cases h
    ·cases h
   ·cases h
  ·cases h
 case h_19=>
  split at h
  ·split at h
   ·split at h
    ·split at h
     ·split at h
      ·cases h
      ·split at h<;>cases h
     ·cases h
    ·cases h
   ·cases h
  ·cases h
 case h_20=>
  split at h
  ·split at h
   ·split at h
    ·split at h
     ·split at h
      ·cases h
      ·cases h
      ·split at h<;>cases h
     ·cases h
    ·cases h
   ·cases h
  ·cases h
 case h_21=>
  split at h
  ·unfold gG at h;split at h
   ·split at h
    ·split at h
     ·split at h<;>cases h
     ·cases h
    ·split at h
     ·split at h<;>cases h
     ·cases h
    ·cases h
   ·cases h
  ·cases h
 case h_22=>split at h<;>(try split at h)<;>(try split at h)<;>cases h
 case h_23=>
  split at h
  ·split at h
   ·split at h
    ·split at h
     ·split at h
      ·unfold cf at h;split at h
       ·cases h
       ·split at h
        ·cases h
        ·dsimp only at h;split at h
         ·cases h
         ·split at h
          ·cases h
          ·split at h
           ·split at h<;>cases h
           ·cases h
          ·split at h
           ·split at h<;>cases h
           ·cases h
          ·cases h
      ·cases h
     ·cases h
    ·cases h
   ·cases h
  ·split at h
   ·exfalso;rcases lu (T:=T) (bx:=st.boxes) with e|⟨_,_,_,e⟩<;>(rw [e] at h;cases h)
   ·cases h
  ·split at h
   ·split at h
    ·unfold kt at h;split at h
     ·cases h
     ·split at h<;>(try split at h)<;>(try split at h)<;>cases h
    ·cases h
   ·cases h
  ·cases h
 case h_24=>
  split at h
  ·split at h<;>cases h
  ·unfold ku at h;split at h
   ·split at h
    ·split at h
     ·split at h<;>cases h
     ·cases h
    ·cases h
   ·cases h
  ·cases h
 case h_25=>
  split at h
  ·unfold wh at h;split at h
   ·cases h
   ·split at h<;>cases h
  ·cases h
 case h_26=>cases h
def cR:Q->Nat
 | .fail=>0|.ret ..=>1|.new ..=>2|.tI ..=>3|.rd ..=>4|.nY ..=>5|.app ..=>6|.rF ..=>6
theorem oS {op:BinOp}{k:IntKind}{x y:Int}:cR (mq op k x y)<=1:=by cases op<;>exact Nat.le_refl _
theorem DF {neg:Bool}{k:TK}{x y:C}:cR (Bo neg k x y)<=1:=by
 unfold Bo;split<;>(try split)<;>(try split)<;>first|exact Nat.le_refl _|exact Nat.zero_le _
theorem n_ {i:TI}{cs:List C}{k:Int}:cR (ku T i cs k)<=1:=by
 unfold ku;split
 ·split
  ·split
   ·split<;>first|exact Nat.le_refl _|exact Nat.zero_le _
   ·exact Nat.zero_le _
  ·exact Nat.zero_le _
 ·exact Nat.zero_le _
theorem qw {op:BinOp}{xt:TypeId}{x y:C}:cR (Bm T op xt x y)<=1:=by
 unfold Bm;split
 ·split
  ·split
   ·split
    ·exact oS
    ·exact oS
    ·split
     ·exact oS
     ·exact Nat.zero_le _
   ·exact Nat.zero_le _
  ·split
   ·split<;>first|exact Nat.le_refl _|exact Nat.zero_le _
   ·exact Nat.zero_le _
  ·split
   ·exact DF
   ·exact DF
   ·exact Nat.zero_le _
 ·exact Nat.zero_le _
theorem wG {sz:Nat}{x:SV}{lo hi mx:Option SV}:cR (rL sz x lo hi mx)<=1:=by
 unfold rL;split<;>(try split)<;>(try split)<;>first|exact Nat.le_refl _|exact Nat.zero_le _
theorem mJ {i:TI}{x ix:SV}:cR (gG T i x ix)<=1:=by
 unfold gG;split<;>(try split)<;>(try split)<;>(try split)<;>first|exact Nat.le_refl _|exact Nat.zero_le _
theorem qA {b:Builtin}{k:TK}{xs:List SV}:cR (kt b k xs)<=1:=by
 unfold kt;split<;>(try split)<;>(try split)<;>(try split)<;>first|exact Nat.le_refl _|exact Nat.zero_le _
theorem H8 {i:TI}{l c:SV}:cR (Ae T i l c)=0\/cR (Ae T i l c)=2:=by
 unfold Ae;split<;>(try split)<;>(try split)<;>(try split)<;>(try split)<;>first|exact .inl rfl|exact .inr rfl
theorem oU {bx:Nat->Option aO}{i:TI}{a x:SV}:cR (gH bx i a x)=0\/cR (gH bx i a x)=3:=by
 unfold gH;split<;>(try split)<;>(try split)<;>(try split)<;>(try split)<;>first|exact .inl rfl|exact .inr rfl
theorem rQ {bx:Nat->Option aO}{i:TI}{x:SV}:cR (jf bx i x)=0\/cR (jf bx i x)=1\/cR (jf bx i x)=4\/cR (jf bx i x)=5:=by
 unfold jf;split<;>(try split)<;>(try split)<;>(try split)<;>first|exact .inl rfl|exact .inr (.inl rfl)|exact .inr (.inr (.inl rfl))|exact .inr (.inr (.inr rfl))
theorem mI {bx:Nat->Option aO}{e:TypeId}{ei:TI}{b x:SV}:cR (cf bx e ei b x)=0\/cR (cf bx e ei b x)=6:=by
 unfold cf;split
 ·exact .inl rfl
 ·split
  ·exact .inl rfl
  ·dsimp only;split
   ·exact .inl rfl
   ·split<;>(try split)<;>(try split)<;>first|exact .inl rfl|exact .inr rfl
theorem oT {bx:Nat->Option aO}{t:TypeId}{x:SV}:cR (lr T bx t x)=0\/cR (lr T bx t x)=3:=by
 rcases lu (T:=T) (bx:=bx) (t:=t) (x:=x) with e|⟨_,_,_,e⟩<;>rw [e]<;>first|exact .inl rfl|exact .inr rfl
theorem fL {ρ:Operand->Option SV}{bx:Nat->Option aO}{op:Op} :
  (cR (aH T ρ bx op)=3->((∃t a x,op=.store t a x)\/∃c,op=.call c/\c.callee=.builtin .clear))/\(cR (aH T ρ bx op)=4\/cR (aH T ρ bx op)=5->∃t a,op=.load t a) /\
  (cR (aH T ρ bx op)=6->∃c,op=.call c/\c.callee=.builtin .append):=by
 have eT:∀{q:Q},cR q<=1->(cR q=3->((∃t a x,op=.store t a x)\/∃c,op=.call c/\c.callee=.builtin .clear))/\(cR q=4\/cR q=5->∃t a,op=.load t a)/\(cR q=6->∃c,op=.call c/\c.callee=.builtin .append):=by
  intro q h;exact ⟨by omega,by omega,by omega⟩
 have YK:∀{q:Q},cR q=0\/cR q=2->(cR q=3->((∃t a x,op=.store t a x)\/∃c,op=.call c/\c.callee=.builtin .clear))/\(cR q=4\/cR q=5->∃t a,op=.load t a)/\(cR q=6->∃c,op=.call c/\c.callee=.builtin .append):=by
  intro q h;exact ⟨by omega,by omega,by omega⟩
 unfold aH;split
 case h_8=>
  split
  ·refine ⟨fun h=>?_,fun _=>⟨_,_,rfl⟩,fun h=>?_⟩
   ·rcases rQ (bx:=bx) with h'|h'|h'|h'<;>(rw [h'] at h;cases h)
   ·rcases rQ (bx:=bx) with h'|h'|h'|h'<;>(rw [h'] at h;cases h)
  ·exact eT (Nat.zero_le _)
 case h_9=>
  split
  ·refine ⟨fun _=>.inl ⟨_,_,_,rfl⟩,fun h=>?_,fun h=>?_⟩
   ·rcases oU (bx:=bx) with h'|h'<;>(rw [h'] at h;rcases h with h|h<;>cases h)
   ·rcases oU (bx:=bx) with h'|h'<;>(rw [h'] at h;cases h)
  ·exact eT (Nat.zero_le _)
 case h_11=>
  split
  ·split
   ·split
    ·exact eT qw
    ·exact eT (Nat.zero_le _)
   ·exact eT qw
  ·exact eT (Nat.zero_le _)
 case h_17=>
  split
  ·exact YK H8
  ·exact eT (Nat.zero_le _)
 case h_18=>
  split
  ·split
   ·split
    ·exact eT wG
    ·exact eT (Nat.zero_le _)
   ·exact eT (Nat.zero_le _)
  ·exact eT (Nat.zero_le _)
 case h_21=>
  split
  ·exact eT mJ
  ·exact eT (Nat.zero_le _)
 case h_23 c=>
  split
  ·rename_i hc;refine ⟨fun h=>?_,fun h=>?_,fun _=>⟨c,rfl,hc⟩⟩
   ·exfalso;split at h<;>(try split at h)<;>(try split at h)<;>(try split at h)<;>first|(rcases mI (bx:=bx) with h'|h'<;>(rw [h'] at h;cases h))|cases h
   ·exfalso;split at h<;>(try split at h)<;>(try split at h)<;>(try split at h)<;>first|(rcases mI (bx:=bx) with h'|h'<;>(rw [h'] at h;rcases h with h|h<;>cases h))|(rcases h with h|h<;>cases h)
  ·rename_i hc;split
   ·refine ⟨fun _=>.inr ⟨c,rfl,hc⟩,fun h=>?_,fun h=>?_⟩
    ·rcases oT (T:=T) (bx:=bx) with h'|h'<;>(rw [h'] at h;rcases h with h|h<;>cases h)
    ·rcases oT (T:=T) (bx:=bx) with h'|h'<;>(rw [h'] at h;cases h)
   ·exact eT (Nat.zero_le _)
  ·split
   ·split
    ·exact eT qA
    ·exact eT (Nat.zero_le _)
   ·exact eT (Nat.zero_le _)
  ·exact eT (Nat.zero_le _)
 case h_24=>
  split
  ·split
   ·exact eT (Nat.le_refl _)
   ·exact eT (Nat.zero_le _)
  ·exact eT n_
  ·exact eT (Nat.zero_le _)
 case h_25=>
  split
  ·unfold wh;split
   ·exact eT (Nat.zero_le _)
   ·split
    ·exact eT (Nat.le_refl _)
    ·exact eT (Nat.zero_le _)
  ·exact eT (Nat.zero_le _)
 all_goals
  first
  | exact eT (Nat.zero_le _)
  | ((repeat' split)<;>first|exact eT (Nat.zero_le _)|exact eT (Nat.le_refl _)|exact YK (.inr rfl))
theorem Fp (hT:cO.ok P T)(hM:Mod n V0 bA β0 st β a w V){t:TypeId}{x:SV}{sc:List Prop}{s:Nat}{b:aO}(h:lr T st.boxes t x=.tI sc s b)(hsc:∀p∈sc,p)(ty:TypeId)(cs:Array Bool) :
  ∃w',(builtin .clear #[t] ty cs #[x.den β]).run P w=.ok (.value (.tuple #[])) w'/\Mod n V0 bA β0 (st.box s b) β a w' V:=by
 unfold lr at h;split at h
 ·rename_i i O;split at h
  ·rename_i e I;split at h
   ·rename_i r R;split at h
    ·rename_i q g o k c S;split at h
     ·rename_i f D J;split at h
      ·cases h
      ·rename_i K;simp only [Q.tI.injEq] at h;obtain ⟨rfl,rfl,rfl⟩:=h;simp only [Bool.or_eq_true,beq_eq,Bool.not_eq_true',not_or,Bool.not_eq_false,List.all_eq_true] at K;obtain ⟨⟨c1,L⟩,U⟩:=K;obtain ⟨info,d,z,h1,M,h3,W,h5,h6,h7⟩:=az (hT _ _ O);obtain ⟨X,ed,u,Y,e2,Z,e4,e5,e6,e7⟩:=az (hT _ _ R);rw [W] at I;obtain rfl:=aT I;obtain ⟨N,z2⟩:=dQ (β:=β) e7;obtain ⟨d1,-⟩:=eC (β:=β) S;have a0:u.cells.size=X.size:=by rw [←N,d1];simp [←e5,L]
       have E:u.cells.toList=q:=by rw [←d1,←N]
       have hle:o+k*r.size<=f.length:=hsc _ (by simp)
       have y:∀m,(qM m q).length=m*r.size:=fun m=>by
        rw [nH,L];simp [List.length_flatten]
       have F:∀v∈qM k q,v.oneCell'=true:=fun v A=>by
        rw [nH] at A;obtain ⟨l,hl,A⟩:=List.mem_flatten.1 A;rw [List.eq_of_mem_replicate hl] at A;exact U v A
       have j:w.heap[β g]?=some (.cells f.toArray D (0,0)):=hM.row J cq;have key:=run_storeCells_at (P:=P) (β g) o D (qM k q) 0 f.toArray w j (by simpa [y] using hle) F;simp only [Nat.add_zero,y] at key;refine ⟨w.setRow (β g) (f.take o++qM k q++f.drop (o+k*r.size)).toArray,?_,hM.tI J cq (by intro s' G;simp [Cells.ids] at G) (by rw [ji j];rfl) rfl rfl rfl⟩
       have B:(Builtin.clear_ #[t] ty #[SV.den β (.c (.kI g o k c))]).run P w=.ok (.tuple #[]) (w.setRow (β g) (f.take o++qM k q++f.drop (o+k*r.size)).toArray):=by
        cases k with
        | zero=>
         have e0:(f.take o++qM 0 q++f.drop (o+0*r.size)).toArray=f.toArray:=by
          rw [nH];simp
         rw [e0,setRow_self w (β g) f.toArray D (0,0) j];simp [Builtin.clear_,aj M,SV.den,C.den]
        | succ k=>
         have ek:(Builtin.zeroCells u.cells (k+1)).toList=qM (k+1) q:=by
          unfold Builtin.zeroCells;rw [qQ (z:=u) (m:=k+1) _ rfl,nH,E]
         have H:(zeroValue e).run P w=.ok u w:=iI Y Z w;simp only [List.append_assoc] at key ⊢;simp [Builtin.clear_,aj M,SV.den,C.den,H,ek,key]
       simp only [builtin];exact dE B
     ·cases h
    ·cases h
   ·cases h
  ·cases h
 ·cases h
theorem HV (hT:cO.ok P T)(hM:Mod n V0 bA β0 st β a w V){o:Oper}{sc:List Prop}{s:Nat}{b:aO}(h:aH T st.a_ st.boxes o.op=.tI sc s b)(hsc:∀p∈sc,p) :
  ∃nx w',(execOp a.eval o).run P w=.ok nx w'/\(nx=.skip\/∃v,nx=.value v)/\Mod n V0 bA β0 (st.box s b) β a w' V:=by
 rcases (fL (T:=T) (ρ:=st.a_) (bx:=st.boxes) (op:=o.op)).1 (by rw [h];rfl) with ⟨t,y,x,d⟩|⟨c,d,k⟩
 ·rw [d] at h;simp only [aH] at h;split at h
  ·rename_i i C D l m e;obtain ⟨w',f,q⟩:=Fs hM (hT _ _ l) (hM.live e) h hsc;refine ⟨.skip,w',?_,.inl rfl,q⟩;simp only [execOp,d,hM.eval m,hM.eval e];exact SJ f
  ·cases h
 ·obtain ⟨E,args,r⟩:=c;dsimp only at k;subst k;rw [d] at h;simp only [aH] at h;split at h
  ·rename_i x t g j;obtain ⟨f,-⟩:=fK hM _ _ g;have u:r=#[t]:=by apply Array.ext';exact j
   have z:args.map a.eval=#[x.den β]:=by apply Array.ext';rw [Array.toList_map];exact f
   obtain ⟨w',A,B⟩:=Fp hT hM h hsc o.type (args.map fun|.const _=>true|_=>false);refine ⟨.value (.tuple #[]),w',?_,.inr ⟨_,rfl⟩,B⟩;simp only [execOp,d,resolve,pure_bind,invoke,u,z];exact A
  ·cases h
theorem Kq (hT:cO.ok P T)(hM:Mod n V0 bA β0 st β a w V){o:Oper}{p:OA}{sh:uB}(h:aH T st.a_ st.boxes o.op=.rd p sh){x:SV}{k:Prop}
  (hx:x.ids=[])(hs:(∃c,x=.c c/\∃s',sh=.one s')\/∃cs l,x=.agg cs/\sh=.agg l/\cs.length=l.length)(hr:V.Lm p x k) :
  (execOp a.eval o).run P w=.ok (.value (x.den β)) w/\k:=by
 obtain ⟨t,y,b⟩:=(fL (T:=T) (ρ:=st.a_) (bx:=st.boxes) (op:=o.op)).2.1 (by rw [h];exact .inl rfl);rw [b] at h;simp only [aH] at h;split at h
 ·rename_i i m d e;unfold jf at h;split at h
  ·split at h
   ·split at h
    ·split at h<;>cases h
    ·split at h<;>cases h
    ·split at h<;>cases h
   ·cases h
   ·split at h<;>cases h
   ·cases h
  ·split at h
   ·rename_i f;simp only [Q.rd.injEq] at h;obtain ⟨rfl,rfl⟩:=h;obtain ⟨g,j⟩:=PM hM (hT _ _ d) (beq_eq.1 f) hx hs hr;refine ⟨?_,j⟩;simp only [execOp,b,hM.eval e];exact dE g
   ·cases h
  ·cases h
 ·cases h
theorem Di (hT:cO.ok P T)(hM:Mod n V0 bA β0 st β a w V){o:Oper}{vs:List Value}{of size:Nat}{sh:uB}(h:aH T st.a_ st.boxes o.op=.nY vs of size sh){x:SV}
  (hx:x.ids=[])(hs:(∃c,x=.c c/\∃s',sh=.one s')\/∃cs l,x=.agg cs/\sh=.agg l/\cs.length=l.length)(hr:MJ vs of size x) :
  (execOp a.eval o).run P w=.ok (.value (x.den β)) w:=by
 obtain ⟨t,y,b⟩:=(fL (T:=T) (ρ:=st.a_) (bx:=st.boxes) (op:=o.op)).2.1 (by rw [h];exact .inr rfl);rw [b] at h;simp only [aH] at h;split at h
 ·rename_i i m g j;unfold jf at h;split at h
  ·split at h
   ·split at h
    ·split at h<;>cases h
    ·split at h<;>cases h
    ·split at h<;>cases h
   ·rename_i d;simp only [Q.nY.injEq] at h;obtain ⟨rfl,rfl,rfl,rfl⟩:=h;have f:=Af hM (hT _ _ g) (.inl d) hx hs hr;simp only [execOp,b,hM.eval j];exact dE f
   ·rename_i d;split at h
    ·cases h
    ·rename_i k;simp only [Q.nY.injEq] at h;obtain ⟨rfl,rfl,rfl,rfl⟩:=h;have f:=Af hM (hT _ _ g) (.inr ⟨d,fun e=>k (by rw [e];rfl)⟩) hx hs hr;simp only [execOp,b,hM.eval j];exact dE f
   ·cases h
  ·split at h<;>cases h
  ·cases h
 ·cases h
end Go.Eng
namespace Go.Eng
variable {P:Program} {T:cO} {n:Nat} {V0:View} {bA:Em} {β0:Nat->Nat} {st:St} {β:Nat->Nat} {a:Act} {w:World} {V:View}
theorem ct {x:Nat}{l:List Nat}:eI x l=true↔x∈l:=by
 induction l with
 | nil=>simp [eI]
 | cons y r ih=>
  simp only [eI,List.mem_cons]
  cases h:Nat.beq x y with
  | true=>simp [beq_eq.1 h]
  | false=>
   have:x≠y:=fun e=>by rw [e,Nat.beq_refl] at h;cases h
   simp [ih,this]
theorem fC {x:Nat}{l:List Nat}:eI x l=false↔x∉l:=by
 rw [←ct];cases eI x l<;>simp
theorem CC {l m:List Nat}:vk l m=true↔∀x∈l,x∉m:=by
 unfold vk;rw [List.all_eq_true];constructor
 ·intro h x a hm;have:=h x a;rw [Bool.not_eq_true',fC] at this;exact this hm
 ·intro h x a;rw [Bool.not_eq_true',fC];exact h x a
theorem C.gR {L:List Nat}{β':Nat->Nat}(hβ:∀s∈L,β' s=β s)(c:C):(c.rel L β' (C.den β)).den β=c.den β/\∀s∈(c.rel L β' (C.den β)).ids,s∈c.ids/\s∉L:=by
 cases c with
 | v x=>exact ⟨rfl,fun s a=>by cases a⟩
 | w x=>exact ⟨rfl,fun s a=>by cases a⟩
 | tt=>exact ⟨rfl,fun s a=>by cases a⟩
 | ff=>exact ⟨rfl,fun s a=>by cases a⟩
 | ptr s o=>
  simp only [C.rel]
  cases h:eI s L with
  | true=>exact ⟨by simp [C.den,hβ s (ct.1 h)],fun s a=>by cases a⟩
  | false=>exact ⟨rfl,fun t b=>⟨b,by simp [C.ids] at b;subst b;exact fC.1 h⟩⟩
 | kI s o n c=>
  simp only [C.rel]
  cases h:eI s L with
  | true=>exact ⟨by simp [C.den,hβ s (ct.1 h)],fun s a=>by cases a⟩
  | false=>exact ⟨rfl,fun t b=>⟨b,by simp [C.ids] at b;subst b;exact fC.1 h⟩⟩
 | gQ s n c=>
  simp only [C.rel]
  cases h:eI s L with
  | true=>exact ⟨by simp [C.den,hβ s (ct.1 h)],fun s a=>by cases a⟩
  | false=>exact ⟨rfl,fun t b=>⟨b,by simp [C.ids] at b;subst b;exact fC.1 h⟩⟩
 | tB f ss=>
  simp only [C.rel]
  cases h:vk ss L with
  | true=>exact ⟨rfl,fun t b=>⟨b,CC.1 h t b⟩⟩
  | false=>exact ⟨rfl,fun s a=>by cases a⟩
theorem qk {L:List Nat}{β':Nat->Nat}(hβ:∀s∈L,β' s=β s)(cs:List C) :
  (cs.map (C.rel L β' (C.den β))).map (C.den β)=cs.map (C.den β)/\∀s∈(cs.map (C.rel L β' (C.den β))).flatMap C.ids,s∈cs.flatMap C.ids/\s∉L:=by
 refine ⟨?_,fun s a=>?_⟩
 ·rw [List.map_map];exact List.map_congr_left fun c _=>(C.gR hβ c).1
 ·obtain ⟨g,b,a⟩:=List.mem_flatMap.1 a;obtain ⟨c,d,rfl⟩:=List.mem_map.1 b;obtain ⟨e,f⟩:=(C.gR hβ c).2 s a;exact ⟨gW d e,f⟩
theorem SV.gR {L:List Nat}{β':Nat->Nat}(hβ:∀s∈L,β' s=β s)(x:SV):(x.rel L β' (C.den β)).den β=x.den β/\∀s∈(x.rel L β' (C.den β)).ids,s∈x.ids/\s∉L:=by
 cases x with
 | c c=>exact C.gR hβ c
 | agg cs=>
  obtain ⟨a,d⟩:=qk hβ cs;exact ⟨by simp only [SV.rel,SV.den,a],d⟩
 | pt xs=>
  refine ⟨?_,fun s e=>?_⟩
  ·simp only [SV.rel,SV.den,List.map_map];congr 2;apply List.map_congr_left;rintro ⟨b,cs⟩ -
   have a:=(qk hβ cs).1
   cases b with
   | true=>simp only [Function.comp,ir,a]
   | false=>
    match cs with
    | []=>rfl
    | [x]=>simp only [Function.comp,List.map_cons,List.map_nil,ir];exact (C.gR hβ x).1
    | _::_::_=>rfl
  ·obtain ⟨i,f,e⟩:=List.mem_flatMap.1 e;obtain ⟨y,g,rfl⟩:=List.mem_map.1 f;obtain ⟨a,d⟩:=(qk hβ y.2).2 s e;exact ⟨List.mem_flatMap.2 ⟨y,g,a⟩,d⟩
theorem aO.gR {L:List Nat}{β':Nat->Nat}(hβ:∀s∈L,β' s=β s)(b:aO):(b.rel L β' (C.den β)).obj β=b.obj β/\∀s∈(b.rel L β' (C.den β)).cs.ids,s∈b.cs.ids/\s∉L:=by
 obtain ⟨cs,ty⟩:=b
 cases cs with
 | lit cs=>
  obtain ⟨c,d⟩:=qk hβ cs;exact ⟨by simp only [aO.rel,aO.obj,Cells.den,c],d⟩
 | row vs=>exact ⟨rfl,fun s a=>by cases a⟩
 | aP vs=>exact ⟨rfl,fun s a=>by cases a⟩
theorem aO.eY {L:List Nat}{β':Nat->Nat}{J:C->Value}{b:aO}(h:(b.rel L β' J).live):b.live:=by
 obtain ⟨cs,ty⟩:=b
 cases cs with
 | lit cs=>exact cD
 | row vs=>exact cq
 | aP vs=>exact h
theorem Ah {L:List Nat}{β':Nat->Nat}{J:C->Value}{t:Nat}{x:SV}(h:(st.rel L β' J).ar t=some x):∃y,st.ar t=some y/\x=y.rel L β' J:=by
 simp only [St.rel] at h
 cases hs:st.ar t with
 | none=>rw [hs] at h;cases h
 | some y=>rw [hs] at h;simp only [Option.some.injEq] at h;exact ⟨y,rfl,h.symm⟩
theorem fM {L:List Nat}{β':Nat->Nat}{J:C->Value}{t:Nat}{x:aO}(h:(st.rel L β' J).boxes t=some x):t∉L/\∃y,st.boxes t=some y/\x=y.rel L β' J:=by
 simp only [St.rel] at h
 cases hm:eI t L with
 | true=>rw [hm] at h;cases h
 | false=>
  rw [hm] at h;refine ⟨fC.1 hm,?_⟩
  cases hs:st.boxes t with
  | none=>rw [hs] at h;cases h
  | some y=>rw [hs] at h;simp only [cond_false,Option.some.injEq] at h;exact ⟨y,rfl,h.symm⟩
theorem eY {L:List Nat}{β':Nat->Nat}{J:C->Value}{t:Nat}(h:∃b,st.boxes t=some b)(hn:t∉L):∃b,(st.rel L β' J).boxes t=some b:=by
 obtain ⟨b,a⟩:=h;refine ⟨b.rel L β' J,?_⟩;simp only [St.rel,fC.2 hn,a,cond_false]
theorem Mod.rel (h:Mod n V0 bA β0 st β a w V){L:List Nat}{β':Nat->Nat}(hβ:∀s∈L,β' s=β s):Mod n V0 bA β0 (st.rel L β' (C.den β)) β a w V where
 defers:=h.defers
 size:=h.size
 ar:=by
  intro t x e;obtain ⟨y,c,rfl⟩:=Ah e;rw [h.ar t y c,(SV.gR hβ y).1]
 xC:=by
  intro t x e s f;obtain ⟨y,c,rfl⟩:=Ah e;obtain ⟨g,i⟩:=(SV.gR hβ y).2 s f;exact eY (h.xC t y c s g) i
 xB:=by
  intro t b d s f;obtain ⟨-,y,c,rfl⟩:=fM d;obtain ⟨g,i⟩:=(aO.gR hβ y).2 s f;exact eY (h.xB t y c s g) i
 boxes:=by
  intro t b d l;obtain ⟨-,y,c,rfl⟩:=fM d;rw [h.boxes t y c (aO.eY l),(aO.gR hβ y).1]
 inj:=by
  intro t m b q d l j o he;obtain ⟨-,y,c,rfl⟩:=fM d;obtain ⟨-,p,k,rfl⟩:=fM j;exact h.inj t m y p c (aO.eY l) k (aO.eY o) he
 ot:=h.ot
 tE:=by
  intro t b d l;obtain ⟨-,y,c,rfl⟩:=fM d;exact h.tE t y c (aO.eY l)
 ext:=h.ext
 own:=by
  intro t b d l;obtain ⟨-,y,c,rfl⟩:=fM d;exact h.own t y c (aO.eY l)
 kM:=h.kM
 jK:=h.jK
 small:=h.small
theorem Mod.ie (h:Mod n V0 bA β0 st β a w V){d g:Nat}{b:aO}(hd:d<n\/200000<=d)(hn:st.boxes d=none)(fO:b.cs.ids=[])
  (hg:∀s b',st.boxes s=some b'->b'.live->β s≠g)(hV:∀o,¬V.bw g o)(hown:V0.w.heap.size<=g\/(100000<=d/\bA.B g)){w':World}
  (hw:w'.heap[g]?=some (b.obj β))(hk:∀i,i<w.heap.size->i≠g->w'.heap[i]?=w.heap[i]?)(hsz:w.heap.size<=w'.heap.size)(hos:w'.os=w.os)(ht:w'.tape=w.tape)(hout:w'.output=w.output) :
  Mod n V0 bA β0 (st.box d b) (cU β d g) a w' V:=by
 have u:∀s b',st.boxes s=some b'->s≠d:=fun s b' c e=>by rw [e,hn] at c;cases c
 have hβ:∀s b',st.boxes s=some b'->cU β d g s=β s:=fun s b' c=>gi _ _ (u s b' c);have D:∀s b',st.boxes s=some b'->b'.live->β s<w.heap.size:=fun s b' c l=>ax (h.boxes s b' c l);have E:∀b' o,V.bw b' o->b'<w.heap.size:=fun b' o v=>ax (h.ot b' o v).1;refine ⟨h.defers,h.size,?_,?_,?_,?_,?_,?_,?_,?_,?_,?_,h.jK,h.small⟩
 ·intro t x y;rw [h.ar t x y];exact SV.bL fun s c=>by obtain ⟨b',p⟩:=h.xC t x y s c;exact (hβ s b' p).symm
 ·intro t x y s c;obtain ⟨b',p⟩:=h.xC t x y s c;exact ⟨b',by rw [ao,if_neg (u s b' p)];exact p⟩
 ·intro s b' c k f;rw [ao] at c;split at c
  ·simp only [Option.some.injEq] at c;rw [←c,fO] at f;cases f
  ·obtain ⟨q,z⟩:=h.xB s b' c k f;exact ⟨q,by rw [ao,if_neg (u k q z)];exact z⟩
 ·intro s b' c l;rw [ao] at c;split at c
  ·rename_i e;simp only [Option.some.injEq] at c;rw [e,aQ,hw,←c];congr 1;exact aO.cI fun k f=>by rw [fO] at f;cases f
  ·rw [hβ s b' c,hk _ (D s b' c l) (hg s b' c l),h.boxes s b' c l];congr 1;exact aO.cI fun k f=>by obtain ⟨q,z⟩:=h.xB s b' c k f;exact (hβ k q z).symm
 ·intro s k b1 b2 j F m G he;rw [ao] at j m;split at j<;>split at m
  ·rename_i A C;rw [A,C]
  ·rename_i A C;rw [A,aQ,hβ k b2 m] at he;exact absurd he.symm (hg k b2 m G)
  ·rename_i A C;rw [C,aQ,hβ s b1 j] at he;exact absurd he (hg s b1 j F)
  ·rw [hβ s b1 j,hβ k b2 m] at he;exact h.inj s k b1 b2 j F m G he
 ·intro b' o v;obtain ⟨j,m⟩:=h.ot b' o v;refine ⟨?_,m⟩;rw [hk _ (E b' o v) (fun e=>hV o (e▸v))];exact j
 ·intro s b' c l o r;rw [ao] at c;split at c
  ·rename_i e;rw [e,aQ] at r;exact hV o r
  ·rw [hβ s b' c] at r;exact h.tE s b' c l o r
 ·refine ⟨Nat.le_trans h.ext.size hsz,fun i H I=>?_,hos.trans h.ext.os,ht.trans h.ext.tape,hout.trans h.ext.out⟩
  rw [hk i (Nat.lt_of_lt_of_le H h.ext.size) (fun e=>by
   rcases hown with j|j
   ·omega
   ·exact I (e▸h.jK _ j.2))]
  exact h.ext.bw i H I
 ·intro s b' c l;rw [ao] at c;split at c
  ·rename_i e;rw [e,aQ];exact hown
  ·rw [hβ s b' c];exact h.own s b' c l
 ·intro s c;obtain ⟨j,m⟩:=h.kM s c;exact ⟨j,by rw [gi _ _ (by have:=h.small;omega)];exact m⟩
theorem zk {t t' e e':TypeId}{ty:TypeId}(ht:P.underlying t=some (.slice e))(E3:P.underlying t'=some (.slice e'))(b xa:OA)(m c k xc:Nat) :
  (Builtin.append_ #[t,t'] ty #[.slice b m c,.slice xa k xc]).run P w=(Builtin.append_ #[t,t] ty #[.slice b m c,.slice xa k xc]).run P w:=by
 simp [Builtin.append_,aj ht,aj E3]
theorem uJ {t e:TypeId}{ty:TypeId}{info:TypeInfo}(ht:P.underlying t=some (.slice e))(hi:P.info? e=some info)(base:OA)(m c c':Nat)(hc:m<=c) :
  (Builtin.append_ #[t,t] ty #[.slice base m c,.slice none 0 c']).run P w=.ok (.slice base m c) w:=by
 cases base<;>simp [Builtin.append_,aj ht,aG hi,Builtin.lenOf,Builtin.firstCells,storeCells,hc]
theorem lU (hM:Mod n V0 bA β0 st β a w V){s:Nat}{vs:List Value}{ty:TypeId}(h:dS st.boxes s=some vs)(ht:kb st.boxes s=some ty):w.heap[β s]?=some (.cells vs.toArray ty (0,0))/\∃b,st.boxes s=some b/\b.live:=by
 unfold dS at h;unfold kb at ht;split at h
 ·rename_i cs d c;rw [c] at ht;simp only [Option.some.injEq] at ht;subst ht;have:=hM.row c cD;simp only [Cells.den,(eC (β:=β) h).1] at this;exact ⟨this,_,c,cD⟩
 ·rename_i ws d c;rw [c] at ht;simp only [Option.some.injEq,Option.some.injEq] at ht h;subst ht;subst h;exact ⟨hM.row c cq,_,c,cq⟩
 ·cases h
theorem Et {bx:Nat->Option aO}{s:Nat}{vs:List Value}(h:dS bx s=some vs):∃ty,kb bx s=some ty:=by
 unfold dS at h;unfold kb;split at h
 ·rename_i a;rw [a];exact ⟨_,rfl⟩
 ·rename_i a;rw [a];exact ⟨_,rfl⟩
 ·cases h
theorem wB (hM:Mod n V0 bA β0 st β a w V){ad:Addr}{xs:List Value}(h:V.sl (some ad) xs):∀j v,xs[j]?=some v->w.cell? (ad.add j)=some v:=by
 intro j v c;obtain ⟨d,e,b⟩:=h j v c;simp only [Option.some.injEq] at e;subst e;exact hM.Uf b
def Src (w:World)(xa:OA)(k size:Nat)(xs:List Value):Prop:=
 xs.length=k*size/\(∀v∈xs,v.oneCell'=true)/\((∃ad,xa=some ad/\∀j v,xs[j]?=some v->w.cell? (ad.add j)=some v)\/xa=none/\k=0)
theorem IH {t e ty:TypeId}{info:TypeInfo}(ht:P.underlying t=some (.slice e))(hi:P.info? e=some info){g m c k xc:Nat}{vs xs:List Value}{xa:OA}
  (hg:w.heap[g]?=some (.cells vs.toArray e (0,0)))(hx:Src w xa k info.size xs)(hc:m+k<=c)(hv:c*info.size<=vs.length) :
  ∃w',(Builtin.append_ #[t,t] ty #[.slice (some ⟨g,0,none⟩) m c,.slice xa k xc]).run P w=.ok (.slice (some ⟨g,0,none⟩) (m+k) c) w' /\
   w'.heap=w.heap.setIfInBounds g (.cells (vs.take (m*info.size)++xs++vs.drop (m*info.size+xs.length)).toArray e (0,0))/\w'.os=w.os/\w'.tape=w.tape/\w'.output=w.output:=by
 obtain ⟨d,h,hx⟩:=hx;rcases hx with ⟨j,rfl,a⟩|⟨rfl,rfl⟩
 ·have b:m*info.size+xs.length<=vs.length:=by
   rw [d,←Nat.add_mul];exact Nat.le_trans (Nat.mul_le_mul_right _ hc) hv
  have l:=run_append_room (P:=P) w t ty e info ht hi g m c vs.toArray hg j k xc xs d a h hc (by simpa using b);exact ⟨_,l,by rw [ji hg],rfl,rfl,rfl⟩
 ·have f:xs=[]:=List.length_eq_zero_iff.1 (by simpa using d);subst f;refine ⟨w,?_,?_,rfl,rfl,rfl⟩
  ·simpa using uJ (P:=P) (w:=w) (ty:=ty) ht hi (some ⟨g,0,none⟩) m c xc (by omega)
  ·simp only [List.append_nil,List.length_nil,Nat.add_zero,List.take_append_drop];apply Array.ext_getElem?;intro i;rw [Array.getElem?_setIfInBounds];split
   ·rename_i e;rw [←e,if_pos (ax hg)];exact hg
   ·rfl
theorem zj {t e ty:TypeId}{info:TypeInfo}{z:Value}(ht:P.underlying t=some (.slice e))(hi:P.info? e=some info)(hz:info.zero=some z)(hzs:z.cells.size=info.size)
  {m c k xc:Nat}{olds xs:List Value}{base xa:OA}
  (hbase:(∃b,base=some b/\olds.length=m*info.size/\∀j v,olds[j]?=some v->w.cell? (b.add j)=some v)\/base=none/\m=0/\c=0/\olds=[])
  (hx:Src w xa k info.size xs)(hc:c<m+k)(hb:(m+k)*info.bytes<=140737488355328)(hb0:info.bytes≠0)(hmc:m<=c) :
  ∃(c':Nat)(rest:List Value)(w':World),m+k<=c'/\(m+k)*info.size+rest.length=c'*info.size/\w'.heap=w.heap/\w'.os=w.os/\w'.tape=w.tape/\w'.output=w.output /\
   (Builtin.append_ #[t,t] ty #[.slice base m c,.slice xa k xc]).run P w=.ok (.slice (some ⟨w.heap.size,0,none⟩) (m+k) c') (w'.alloc (.cells (olds++xs++rest).toArray e)):=by
 obtain ⟨h,n,hx⟩:=hx
 have f:(m+k:Nat)<=140737488355328:=by
  have:(m+k)*1<=(m+k)*info.bytes:=Nat.mul_le_mul_left _ (by omega);omega
 have a:∀N,(m+k)<=N->(m+k)*info.size+(Builtin.zeroCells z.cells (N-(m+k))).toList.length=N*info.size:=by
  intro N o;rw [Array.length_toList,size_zeroCells,hzs,←Nat.add_mul];congr 1;omega
 rcases hx with ⟨i,rfl,d⟩|⟨rfl,rfl⟩
 ·rcases hbase with ⟨b,rfl,l,hold⟩|⟨rfl,rfl,rfl,rfl⟩
  ·have g:=run_append_grow (P:=P) w t ty e info z ht hi hz b m c olds l hold i k xc xs h d hc (by omega) (growslice_fits hc hb);refine ⟨_,(Builtin.zeroCells z.cells (grownCap w (m+k) c e-(m+k))).toList,w.drew,grownCap_ge w (m+k) c e,a _ (grownCap_ge w (m+k) c e),rfl,rfl,rfl,rfl,?_⟩;rw [g];congr 3;apply Array.ext';simp
  ·simp only [Nat.zero_add] at hc hb f a ⊢;have g:=run_append_nil (P:=P) w t ty e info z ht hi hz i k xc xs h d (by omega) (by omega) (by omega);refine ⟨_,(Builtin.zeroCells z.cells (grownCap w k 0 e-k)).toList,w.drew,grownCap_ge w k 0 e,a _ (grownCap_ge w k 0 e),rfl,rfl,rfl,rfl,?_⟩;rw [g];congr 3;apply Array.ext';simp
 ·omega
theorem Bc {s d n:Nat}(hd:d<n):nN s d<n\/200000<=nN s d:=by
 unfold nN
 cases Nat.blt s 100000 with
 | true=>exact .inl hd
 | false=>exact .inr (by rw [cond_false];exact Nat.le_add_left _ _)
theorem GD {s d:Nat}(hs:100000<=s):100000<=nN s d:=by
 unfold nN
 have:Nat.blt s 100000=false:=by
  cases h:Nat.blt s 100000 with
  | false=>rfl
  | true=>have:=Nat.le_of_ble_eq_true h;omega
 rw [this,cond_false];omega
theorem Cc (hM:Mod n V0 bA β0 st β a w V){d:Nat}(hd:d<n){t e ty:TypeId}{info:TypeInfo}{z:Value}
  (ht:P.underlying t=some (.slice e))(hi:P.info? e=some info)(hz:info.zero=some z)(hzs:z.cells.size=info.size)(hb0:info.bytes≠0)
  {s:Nat}{vs xs:List Value}{m c k xc:Nat}{base xa:OA}
  (hbase:(base=some ⟨β s,0,none⟩/\w.heap[β s]?=some (.cells vs.toArray e (0,0))/\∃b,st.boxes s=some b/\b.live)\/(base=none/\m=0/\c=0/\k≠0))
  (hx:Src w xa k info.size xs)(hb:(m+k)*info.bytes<=140737488355328)(hmc:m<=c)(hcv:c*info.size<=vs.length)(hxl:xs.length=k*info.size)(hnb:st.boxes (nN s d)=none) :
  ∃(spare:List Value)(c' g:Nat)(w':World),m+k<=c'/\c'*info.size<=(m+k)*info.size+spare.length/\((c≠0\/k≠0)->c'≠0) /\
   (Builtin.append_ #[t,t] ty #[.slice base m c,.slice xa k xc]).run P w=.ok (.slice (some ⟨g,0,none⟩) (m+k) c') w' /\
   ∀bx:aO,(bx=⟨.row (vs.take (m*info.size)++xs++spare),e⟩\/bx=⟨.aP (vs.take (m*info.size)++xs++spare),e⟩) ->
    Mod n V0 bA β0 ((st.box s ⟨.aP [],e⟩).box (nN s d) bx) (cU β (nN s d) g) a w' V:=by
 have A:Mod n V0 bA β0 (st.box s ⟨.aP [],e⟩) β a w V:=hM.void
 have E:∀bx:aO,∀l:List Value,(bx=⟨.row l,e⟩\/bx=⟨.aP l,e⟩)->bx.cs.ids=[]/\bx.obj β=.cells l.toArray e (0,0):=by
  rintro bx l (rfl|rfl)<;>exact ⟨rfl,rfl⟩
 have Z:∀t b,(st.box s ⟨.aP [],e⟩).boxes t=some b->b.live->st.boxes t=some b/\t≠s:=by
  intro t b hb l;rw [ao] at hb;split at hb
  ·cases hb;exact absurd l eW
  ·rename_i h;exact ⟨hb,h⟩
 have K:(∃b,st.boxes s=some b/\b.live)\/True->(s≠nN s d\/st.boxes s=none)->(st.box s ⟨.aP [],e⟩).boxes (nN s d)=none\/s=nN s d:=by
  intro _ _;by_cases h:s=nN s d
  ·exact .inr h
  ·left;rw [ao,if_neg (Ne.symm h)];exact hnb
 have p:c<m+k->((∃b,base=some b/\(vs.take (m*info.size)).length=m*info.size/\∀j v,(vs.take (m*info.size))[j]?=some v->w.cell? (b.add j)=some v)\/base=none/\m=0/\c=0/\vs.take (m*info.size)=[]) ->
   (s=nN s d->st.boxes s=none) ->
   ∃(spare:List Value)(c' g:Nat)(w':World),m+k<=c'/\c'*info.size<=(m+k)*info.size+spare.length/\((c≠0\/k≠0)->c'≠0) /\
   (Builtin.append_ #[t,t] ty #[.slice base m c,.slice xa k xc]).run P w=.ok (.slice (some ⟨g,0,none⟩) (m+k) c') w' /\
   ∀bx:aO,(bx=⟨.row (vs.take (m*info.size)++xs++spare),e⟩\/bx=⟨.aP (vs.take (m*info.size)++xs++spare),e⟩) ->
    Mod n V0 bA β0 ((st.box s ⟨.aP [],e⟩).box (nN s d) bx) (cU β (nN s d) g) a w' V:=by
  intro F hold L;obtain ⟨c',rest,w',y,M,B,G,q,r,N⟩:=zj (ty:=ty) (xc:=xc) ht hi hz hzs hold hx F hb hb0 hmc;refine ⟨rest,c',w.heap.size,_,y,by rw [←M];exact Nat.le_refl _,by omega,N,?_⟩;intro bx f;obtain ⟨H,I⟩:=E bx _ f;have u:w'.heap.size=w.heap.size:=by rw [B]
  by_cases W:s=nN s d
  ·
   have e1:(st.box s ⟨.aP [],e⟩).box (nN s d) bx=st.box (nN s d) bx:=by
    rw [←W];simp only [St.box];congr 1;funext t;cases Nat.beq t s<;>rfl
   rw [e1];refine hM.ie (Bc hd) hnb H ?_ ?_ (.inl hM.ext.size) ?_ ?_ ?_ G q r
   ·intro C D f l he;have:=ax (hM.boxes C D f l);omega
   ·intro o f;have:=ax (hM.ot _ o f).1;omega
   ·rw [I,←u];exact heap_alloc_new _ _
   ·intro i O _;rw [dq _ _ (by omega),B]
   ·simp [u]
  ·refine A.ie (Bc hd) (by rw [ao,if_neg (Ne.symm W)];exact hnb) H ?_ ?_ (.inl hM.ext.size) ?_ ?_ ?_ G q r
   ·intro C D f l he;have:=ax (A.boxes C D f l);omega
   ·intro o f;have:=ax (hM.ot _ o f).1;omega
   ·rw [I,←u];exact heap_alloc_new _ _
   ·intro i O _;rw [dq _ _ (by omega),B]
   ·simp [u]
 rcases hbase with ⟨rfl,Q,R,x,S⟩|⟨rfl,rfl,rfl,a0⟩
 ·have X:s≠nN s d:=fun e=>by rw [←e,x] at hnb;cases hnb
  by_cases F:m+k<=c
  ·obtain ⟨w',N,B,G,q,r⟩:=IH (ty:=ty) (xc:=xc) ht hi Q hx F hcv
   have Y:m*info.size+xs.length<=vs.length:=by
    rw [hxl,←Nat.add_mul];exact Nat.le_trans (Nat.mul_le_mul_right _ F) hcv
   have T:=ax Q;refine ⟨vs.drop (m*info.size+xs.length),c,β s,w',F,by rw [List.length_drop,hxl,Nat.add_mul];omega,by omega,N,?_⟩;intro bx f;obtain ⟨H,I⟩:=E bx _ f;refine A.ie (Bc hd) (by rw [ao,if_neg (Ne.symm X)];exact hnb) H ?_ (hM.tE s R x S) ?_ ?_ ?_ (by rw [B];simp) G q r
   ·intro C D f l he;obtain ⟨y,M⟩:=Z C D f l;exact M (hM.inj C s D R y l x S he)
   ·rcases hM.own s R x S with y|y
    ·exact .inl y
    ·exact .inr ⟨GD y.1,y.2⟩
   ·rw [B,Array.getElem?_setIfInBounds,if_pos rfl,if_pos T,I]
   ·intro i _ U;rw [B,Array.getElem?_setIfInBounds,if_neg (Ne.symm U)]
  ·refine p (by omega) (.inl ⟨⟨β s,0,none⟩,rfl,?_,?_⟩) (fun e=>absurd e X)
   ·rw [List.length_take,Nat.min_eq_left];exact Nat.le_trans (Nat.mul_le_mul_right _ hmc) hcv
   ·intro j v J;rw [eL,cell_of_row Q];rw [List.getElem?_take] at J;split at J
    ·simpa using J
    ·cases J
 ·refine p (by omega) (.inr ⟨rfl,rfl,rfl,by simp⟩) (fun e=>by rw [e];exact hnb)
theorem uK (hM:Mod n V0 bA β0 st β a w V){K:St->View->Prop}{d:Nat}(hd:d<n){t e ty:TypeId}{info:TypeInfo}{z:Value}
  (ht:P.underlying t=some (.slice e))(hi:P.info? e=some info)(hz:info.zero=some z)(hzs:z.cells.size=info.size)(hb0:info.bytes≠0)
  {s:Nat}{vs xs:List Value}{m c k xc:Nat}{xa:OA}(hg:w.heap[β s]?=some (.cells vs.toArray e (0,0)))(hbb:∃b,st.boxes s=some b/\b.live)
  (hx:Src w xa k info.size xs)(h:B_ s vs m c info.size info.bytes e d st V K k xs) :
  ∃v w' st' β',(Builtin.append_ #[t,t] ty #[.slice (some ⟨β s,0,none⟩) m c,.slice xa k xc]).run P w=.ok v w'/\Mod n V0 bA β0 st' β' (a.put (some d) v) w' V/\K st' V:=by
 obtain ⟨q,i,j,l,r,h⟩:=h;split at h
 ·exact h.elim
 ·rename_i o;obtain ⟨spare,p,g,w',u,y,-,A,B⟩:=Cc (ty:=ty) (xc:=xc) hM hd ht hi hz hzs hb0 (.inl ⟨rfl,hg,hbb⟩) hx q i j l o;refine ⟨_,w',_,_,A,(B _ (.inl rfl)).put (x:=.c (.kI (nN s d) 0 (m+k) p)) hd ?_ ?_,h 0 (fun _=>.bool true) spare p u y⟩
  ·simp [SV.den,C.den,aQ]
  ·intro D f;simp [SV.ids,C.ids] at f;subst f;exact ⟨_,by rw [ao,if_pos rfl]⟩
theorem vO (hM:Mod n V0 bA β0 st β a w V){K:St->View->Prop}{d:Nat}(hd:d<n){t e ty:TypeId}{info:TypeInfo}{z:Value}
  (ht:P.underlying t=some (.slice e))(hi:P.info? e=some info)(hz:info.zero=some z)(hzs:z.cells.size=info.size)(hb0:info.bytes≠0)(hs0:info.size≠0)
  {s:Nat}{vs xs:List Value}{m c k xc:Nat}{xa:OA}(hbb:st.boxes s=some ⟨.aP vs,e⟩)
  (hx:Src w xa k info.size xs)(h:sM s vs m c info.size info.bytes e d st V K k xs) :
  ∃v w' st' β',(Builtin.append_ #[t,t] ty #[.slice (mA (β s) c) m c,.slice xa k xc]).run P w=.ok v w'/\Mod n V0 bA β0 st' β' (a.put (some d) v) w' V/\K st' V:=by
 obtain ⟨G,r,l,o,H,h⟩:=h;split at h
 ·exact h.elim
 ·rename_i u
  have fin:((mA (β s) c=some ⟨β s,0,none⟩/\w.heap[β s]?=some (.cells vs.toArray e (0,0))/\∃b,st.boxes s=some b/\b.live)\/(mA (β s) c=none/\m=0/\c=0/\k≠0))->(c≠0\/k≠0) ->
    ∃v w' st' β',(Builtin.append_ #[t,t] ty #[.slice (mA (β s) c) m c,.slice xa k xc]).run P w=.ok v w'/\Mod n V0 bA β0 st' β' (a.put (some d) v) w' V/\K st' V:=by
   intro i y;obtain ⟨spare,E,g,w',I,J,L,M,N⟩:=Cc (ty:=ty) (xc:=xc) hM hd ht hi hz hzs hb0 i hx G r l o u;refine ⟨_,w',_,_,M,(N _ (.inr rfl)).put (x:=.c (.gQ (nN s d) (m+k) E)) hd ?_ ?_,h spare E I J⟩
   ·simp [SV.den,C.den,aQ,mA,L y]
   ·intro O f;simp [SV.ids,C.ids] at f;subst f;exact ⟨_,by rw [ao,if_pos rfl]⟩
  by_cases j:c=0
  ·have hm:m=0:=by omega
   by_cases A:k=0
   ·
    subst j hm A;have F:=h [] 0 (by omega) (by simp);have B:xs=[]:=List.length_eq_zero_iff.1 (by simpa using o);subst B;have Q:vs.take (0*info.size)++[]++[]=([]:List Value):=by simp
    rw [Q] at F;have D:Mod n V0 bA β0 ((st.box s ⟨.aP [],e⟩).box (nN s d) ⟨.aP [],e⟩) β a w V:=hM.void.void;refine ⟨.slice none 0 0,w,_,_,?_,D.put (x:=.c (.gQ (nN s d) 0 0)) hd ?_ ?_,F⟩
    ·have R:mA (β s) 0=none:=rfl;rw [R]
     cases xa with
     | none=>exact uJ ht hi none 0 0 xc (by omega)
     | some ad=>simp [Builtin.append_,aj ht,aG hi,Builtin.lenOf,Builtin.firstCells,loadCells,loadCellsFrom]
    ·simp [SV.den,C.den,mA]
    ·intro O f;simp [SV.ids,C.ids] at f;subst f;exact ⟨_,by rw [ao,if_pos rfl]⟩
   ·exact fin (.inr ⟨by rw [j];rfl,hm,j,A⟩) (.inr A)
  ·have p:aO.live ⟨.aP vs,e⟩:=eg fun S=>by
    subst S;have q:c*info.size=0:=by simpa using l
    rcases Nat.mul_eq_zero.1 q with q|q
    ·exact j q
    ·exact hs0 q
   exact fin (.inl ⟨by simp [mA,j],hM.row hbb p,_,hbb,p⟩) (.inl j)
theorem uL (hM:Mod n V0 bA β0 st β a w V){K:St->View->Prop}{d:Nat}(hd:d<n){t e ty:TypeId}{info:TypeInfo}{z:Value}
  (ht:P.underlying t=some (.slice e))(hi:P.info? e=some info)(hz:info.zero=some z)(hzs:z.cells.size=info.size)(hb0:info.bytes≠0)
  {vs xs:List Value}{m c k xc:Nat}{xa ba:OA}(hsl:V.sl ba vs)(hvl:vs.length=m*info.size)(hmc:m<=c)(hn0:ba.isNone=true->c=0)(hs0:info.size≠0)
  (hx:Src w xa k info.size xs)(h:Cb vs m c info.size info.bytes e d st V K k xs) :
  ∃v w' st' β',(Builtin.append_ #[t,t] ty #[.slice ba m c,.slice xa k xc]).run P w=.ok v w'/\Mod n V0 bA β0 st' β' (a.put (some d) v) w' V/\K st' V:=by
 obtain ⟨E,s,F,G,h⟩:=h
 have f:(∃b,ba=some b/\vs.length=m*info.size/\∀j v,vs[j]?=some v->w.cell? (b.add j)=some v)\/ba=none/\m=0/\c=0/\vs=[]:=by
  cases ba with
  | some b=>exact .inl ⟨b,rfl,hvl,wB hM hsl⟩
  | none=>
   have H:=hn0 rfl;have hm:m=0:=by omega
   subst hm;exact .inr ⟨rfl,rfl,H,List.length_eq_zero_iff.1 (by simpa using hvl)⟩
 obtain ⟨B,rest,w',I,J,D,L,u,y,M⟩:=zj (ty:=ty) (xc:=xc) (base:=ba) (olds:=vs) ht hi hz hzs f hx s E hb0 hmc;split at h
 ·exact h.elim
 ·rename_i N;have O:=h rest B I (by rw [←J];exact Nat.le_refl _);have q:w'.heap.size=w.heap.size:=by rw [D]
  have A:=Mod.ie hM (d:=d) (g:=w.heap.size) (b:=⟨.row (vs++xs++rest),e⟩) (w':=w'.alloc (.cells (vs++xs++rest).toArray e)) (.inl hd) N rfl
   (by
    intro Q R p l he;have:=ax (hM.boxes Q R p l);omega)
   (by intro o p;have:=ax (hM.ot _ o p).1;omega) (.inl hM.ext.size)
   (by rw [←q];exact heap_alloc_new _ _)
   (by intro i S _;rw [dq _ _ (by omega),D])
   (by simp [q]) L u y
  refine ⟨_,_,_,_,M,A.put (x:=.c (.kI d 0 (m+k) B)) hd ?_ ?_,O⟩
  ·simp [SV.den,C.den,aQ]
  ·intro T r;simp [SV.ids,C.ids] at r;subst r;exact ⟨_,by rw [ao,if_pos rfl]⟩
end Go.Eng
namespace Go.Eng
variable {P:Program} {T:cO} {n:Nat} {V0:View} {bA:Em} {β0:Nat->Nat} {st:St} {β:Nat->Nat} {a:Act} {w:World} {V:View}
theorem sS (ws:List Value)(o n:Nat):(aM ws o n).length=n:=by
 unfold aM
 cases h:Nat.ble (o+n) ws.length with
 | true=>
  have:=Nat.le_of_ble_eq_true h;simp only [cond_true];rw [List.length_take,List.length_drop];omega
 | false=>simp
theorem sR {ws:List Value}{o n:Nat}(h1:∀v∈aM ws o n,v.oneCell'=true){j:Nat}{v:Value}(hj:(aM ws o n)[j]?=some v):ws[o+j]?=some v:=by
 unfold aM at h1 hj
 cases h:Nat.ble (o+n) ws.length with
 | true=>
  rw [h] at hj;simp only [cond_true] at hj;rw [List.getElem?_take] at hj;split at hj
  ·simpa using hj
  ·cases hj
 | false=>
  rw [h] at hj h1;simp only [cond_false] at hj h1;have hm:=List.mem_of_getElem? hj;have:=h1 v hm;rw [List.eq_of_mem_replicate hm] at this;cases this
theorem GY (hM:Mod n V0 bA β0 st β a w V){ei:TI}{info:TypeInfo}(e5:ei.size=info.size){s o k xc:Nat}{src:OA×Nat ⊕ List Value}
  (hsrc:(match st.boxes s with
    | some ⟨.row ws,_⟩=>some (.inr (aM ws o (k*ei.size)))
    | _=>match dS st.boxes s with
     | some ws=>if Nat.ble (o+k*ei.size) ws.length then some (.inr ((ws.drop o).take (k*ei.size))) else none
     | none=>none)=some src) :
  ∃xa k' Il,(SV.c (.kI s o k xc)).den β=.slice xa k' Il/\((src=.inl (xa,k'))\/∃xs,src=.inr xs/\xs.length=k'*info.size/\∃ad,xa=some ad/\((∀v∈xs,v.oneCell'=true)->∀j v,xs[j]?=some v->w.cell? (ad.add j)=some v)):=by
 split at hsrc
 ·rename_i ws ty f;simp only [Option.some.injEq] at hsrc;subst hsrc;have b:dS st.boxes s=some ws:=by unfold dS;rw [f]
  have d:kb st.boxes s=some ty:=by unfold kb;rw [f]
  obtain ⟨g,-⟩:=lU hM b d;refine ⟨_,k,xc,rfl,.inr ⟨_,rfl,?_,⟨β s,o,none⟩,rfl,?_⟩⟩
  ·rw [sS,←e5]
  ·intro h j v e;rw [eL,cell_of_row g];exact sR h e
 ·split at hsrc
  ·rename_i ws b;split at hsrc
   ·rename_i hle;have hle:=Nat.le_of_ble_eq_true hle;simp only [Option.some.injEq] at hsrc;subst hsrc;obtain ⟨i,d⟩:=Et b;obtain ⟨g,-⟩:=lU hM b d;refine ⟨_,k,xc,rfl,.inr ⟨_,rfl,?_,⟨β s,o,none⟩,rfl,?_⟩⟩
    ·rw [List.length_take,List.length_drop,←e5];omega
    ·intro _ j v e;rw [eL,cell_of_row g];rw [List.getElem?_take] at e;split at e
     ·simpa using e
     ·cases e
   ·cases hsrc
  ·cases hsrc
theorem DE {xv:Value}{src:OA×Nat ⊕ List Value}{sz:Nat}(h:∃xa k' Il,xv=.slice xa k' Il/\((src=.inl (xa,k'))\/∃xs,src=.inr xs/\xs.length=k'*sz/\∃ad,xa=some ad/\((∀v∈xs,v.oneCell'=true)->∀j v,xs[j]?=some v->w.cell? (ad.add j)=some v))) :
  ∃xa k xc,xv=.slice xa k xc/\((src=.inl (xa,k))\/∃xs,src=.inr xs/\xs.length=k*sz/\((∀v∈xs,v.oneCell'=true)->(∃ad,xa=some ad/\∀j v,xs[j]?=some v->w.cell? (ad.add j)=some v)\/(xa=none/\k=0))):=by
 obtain ⟨xa,k,xc,e,h⟩:=h;refine ⟨xa,k,xc,e,h.imp id ?_⟩;rintro ⟨xs,a,b,ad,c,d⟩;exact ⟨xs,a,b,fun f=>.inl ⟨ad,c,d f⟩⟩
theorem DD (hM:Mod n V0 bA β0 st β a w V){ei:TI}{info:TypeInfo}(e5:ei.size=info.size)(hz:¬ei.size=0){s k xc:Nat}{src:OA×Nat ⊕ List Value}
  (hsrc:(match st.boxes s with
    | some ⟨.aP ws,_⟩=>some (.inr (mG ws k xc ei.size))
    | _=>none)=some src) :
  ∃xa k' Il,(SV.c (.gQ s k xc)).den β=.slice xa k' Il/\((src=.inl (xa,k'))\/∃xs,src=.inr xs/\xs.length=k'*info.size/\((∀v∈xs,v.oneCell'=true)->(∃ad,xa=some ad/\∀j v,xs[j]?=some v->w.cell? (ad.add j)=some v)\/(xa=none/\k'=0))):=by
 split at hsrc
 ·rename_i ws ty g;simp only [Option.some.injEq] at hsrc;subst hsrc;refine ⟨_,k,xc,rfl,.inr ⟨_,rfl,?_,fun b=>?_⟩⟩
  ·unfold mG
   cases Nat.ble k xc with
   | true=>rw [cond_true,sS,e5]
   | false=>rw [cond_false,List.length_replicate,e5]
  ·unfold mG at b ⊢;by_cases m:xc=0
   ·subst m
    cases k with
    | zero=>exact .inr ⟨rfl,rfl⟩
    | succ k=>
     have d:Nat.ble (k+1) 0=false:=rfl;rw [d,cond_false] at b;have:(Value.agg #[])∈List.replicate ((k+1)*ei.size) (Value.agg #[]):=List.mem_replicate.2 ⟨Nat.mul_ne_zero (by omega) hz,rfl⟩;have:=b _ this;cases this
   ·left;obtain ⟨h,rfl⟩:∃h,xc=h+1:=⟨xc-1,by omega⟩;refine ⟨⟨β s,0,none⟩,rfl,fun j v f=>?_⟩
    cases d:Nat.ble k (h+1) with
    | false=>
     rw [d,cond_false] at b f;have hm:=List.mem_of_getElem? f;have:=b v hm;rw [List.eq_of_mem_replicate hm] at this;cases this
    | true=>
     rw [d,cond_true] at b f;have i:=sR b f;have l:ws≠[]:=fun e=>by rw [e] at i;simp at i
     rw [eL,cell_of_row (hM.boxes s _ g (eg l))];exact i
 ·cases hsrc
theorem Bl (hM:Mod n V0 bA β0 st β a w V){e:TypeId}{ei:TI}{info:TypeInfo}{z:Value}(e5:ei.size=info.size)(e6:ei.bytes=info.bytes)(e7:ei.zero=z.cells.toList.map C.ofConst)
  {b x:SV}{old:Option Nat}{ba:OA}{vs:List Value}{m c:Nat}{src:OA×Nat ⊕ List Value}{size bytes:Nat}{ty:TypeId}
  (h:cf st.boxes e ei b x=.app old ba vs m c src size bytes ty) :
  size=info.size/\bytes=info.bytes/\ty=e/\info.bytes≠0/\info.size≠0/\z.cells.size=info.size /\
  (∃base,b.den β=.slice base m c/\((∃s,old=some s/\base=some ⟨β s,0,none⟩/\w.heap[β s]?=some (.cells vs.toArray e (0,0))/\∃b,st.boxes s=some b/\b.live)\/old=none/\base=ba)) /\
  ∃xa k xc,x.den β=.slice xa k xc/\((src=.inl (xa,k))\/∃xs,src=.inr xs/\xs.length=k*info.size/\((∀v∈xs,v.oneCell'=true)->(∃ad,xa=some ad/\∀j v,xs[j]?=some v->w.cell? (ad.add j)=some v)\/(xa=none/\k=0))):=by
 unfold cf at h;split at h
 ·cases h
 ·rename_i r q;split at h
  ·cases h
  ·rename_i f;simp only [Bool.or_eq_true,beq_eq,Bool.not_eq_eq_eq_not,not_or] at f;obtain ⟨⟨u,t⟩,p⟩:=f
   have p:ei.size=r.length:=by
    rcases g:Nat.beq ei.size r.length with _|_
    ·rw [g] at p;exact absurd rfl p
    ·exact beq_eq.1 g
   obtain ⟨y,-⟩:=dQ (β:=β) e7;obtain ⟨d1,-⟩:=eC (β:=β) q;have i:z.cells.size=info.size:=by rw [←y,d1];simp [←p,e5]
   dsimp only at h;split at h
   ·cases h
   ·rename_i l d
    have g:(l=src/\ei.size=size/\ei.bytes=bytes/\e=ty)/\∃base,b.den β=.slice base m c/\((∃s,old=some s/\base=some ⟨β s,0,none⟩/\w.heap[β s]?=some (.cells vs.toArray e (0,0))/\∃b,st.boxes s=some b/\b.live)\/old=none/\base=ba):=by
     split at h
     ·simp only [Q.app.injEq] at h;obtain ⟨rfl,rfl,rfl,rfl,rfl,rfl,rfl,rfl,rfl⟩:=h;exact ⟨⟨rfl,rfl,rfl,rfl⟩,_,rfl,.inr ⟨rfl,rfl⟩⟩
     ·rename_i s H I;split at h
      ·rename_i A B D E;split at h
       ·rename_i he;obtain rfl:=beq_eq.1 he;simp only [Q.app.injEq] at h;obtain ⟨rfl,rfl,rfl,rfl,rfl,rfl,rfl,rfl,rfl⟩:=h;obtain ⟨F,G⟩:=lU hM D E;exact ⟨⟨rfl,rfl,rfl,rfl⟩,_,rfl,.inl ⟨s,rfl,rfl,F,G⟩⟩
       ·cases h
      ·cases h
     ·split at h
      ·split at h<;>cases h
      ·cases h
     ·cases h
    obtain ⟨⟨rfl,rfl,rfl,rfl⟩,g⟩:=g;refine ⟨e5,e6,rfl,by rw [←e6];exact u,by rw [←e5];exact t,i,g,?_⟩;split at d
    ·rename_i xa k xc;simp only [Option.some.injEq] at d;subst d;exact ⟨xa,k,xc,rfl,.inl rfl⟩
    ·rename_i s o k xc;exact DE (GY hM e5 d)
    ·rename_i s k xc;exact DD hM e5 t d
    ·cases d
theorem yh (hM:Mod n V0 bA β0 st β a w V){e:TypeId}{ei:TI}{info:TypeInfo}{z:Value}(e5:ei.size=info.size)(e6:ei.bytes=info.bytes)(e7:ei.zero=z.cells.toList.map C.ofConst)
  {b x:SV}{s:Nat}{vs:List Value}{m c:Nat}{src:OA×Nat ⊕ List Value}{size bytes:Nat}{ty:TypeId}
  (h:cf st.boxes e ei b x=.rF s vs m c src size bytes ty) :
  size=info.size/\bytes=info.bytes/\ty=e/\info.bytes≠0/\info.size≠0/\z.cells.size=info.size /\
  (b.den β=.slice (mA (β s) c) m c/\st.boxes s=some ⟨.aP vs,e⟩) /\
  ∃xa k xc,x.den β=.slice xa k xc/\((src=.inl (xa,k))\/∃xs,src=.inr xs/\xs.length=k*info.size/\((∀v∈xs,v.oneCell'=true)->(∃ad,xa=some ad/\∀j v,xs[j]?=some v->w.cell? (ad.add j)=some v)\/(xa=none/\k=0))):=by
 unfold cf at h;split at h
 ·cases h
 ·rename_i r q;split at h
  ·cases h
  ·rename_i f;simp only [Bool.or_eq_true,beq_eq,Bool.not_eq_eq_eq_not,not_or] at f;obtain ⟨⟨u,t⟩,p⟩:=f
   have p:ei.size=r.length:=by
    rcases g:Nat.beq ei.size r.length with _|_
    ·rw [g] at p;exact absurd rfl p
    ·exact beq_eq.1 g
   obtain ⟨y,-⟩:=dQ (β:=β) e7;obtain ⟨d1,-⟩:=eC (β:=β) q;have i:z.cells.size=info.size:=by rw [←y,d1];simp [←p,e5]
   dsimp only at h;split at h
   ·cases h
   ·rename_i l d
    have g:(l=src/\ei.size=size/\ei.bytes=bytes/\e=ty)/\b.den β=.slice (mA (β s) c) m c/\st.boxes s=some ⟨.aP vs,e⟩:=by
     split at h
     ·cases h
     ·split at h
      ·split at h<;>cases h
      ·cases h
     ·rename_i E F G;split at h
      ·rename_i A B D;split at h
       ·rename_i he;obtain rfl:=beq_eq.1 he;simp only [Q.rF.injEq] at h;obtain ⟨rfl,rfl,rfl,rfl,rfl,rfl,rfl,rfl⟩:=h;exact ⟨⟨rfl,rfl,rfl,rfl⟩,rfl,D⟩
       ·cases h
      ·cases h
     ·cases h
    obtain ⟨⟨rfl,rfl,rfl,rfl⟩,g⟩:=g;refine ⟨e5,e6,rfl,by rw [←e6];exact u,by rw [←e5];exact t,i,g,?_⟩;split at d
    ·rename_i xa k xc;simp only [Option.some.injEq] at d;subst d;exact ⟨xa,k,xc,rfl,.inl rfl⟩
    ·rename_i s o k xc;exact DE (GY hM e5 d)
    ·rename_i s k xc;exact DD hM e5 t d
    ·cases d
theorem HS (hT:cO.ok P T)(hM:Mod n V0 bA β0 st β a w V){o:Oper}{K:St->View->Prop}{d:Nat}(hd:d<n){old:Option Nat}{ba:OA}{vs:List Value}{m c:Nat}{src:OA×Nat ⊕ List Value}{size bytes:Nat}{ty:TypeId}
  (h:aH T st.a_ st.boxes o.op=.app old ba vs m c src size bytes ty)(hv:tJ (.app old ba vs m c src size bytes ty) (some d) st V K) :
  ∃v w' st' β',(execOp a.eval o).run P w=.ok (.value v) w'/\Mod n V0 bA β0 st' β' (a.put (some d) v) w' V/\K st' V:=by
 obtain ⟨cl,L,pR⟩:=(fL (T:=T) (ρ:=st.a_) (bx:=st.boxes) (op:=o.op)).2.2 (by rw [h];rfl);rw [L] at h;simp only [aH,pR] at h;split at h
 ·rename_i b x t t' D W;split at h
  ·rename_i i i' hi X;split at h
   ·rename_i e e' hk M;split at h
    ·rename_i ei CL;obtain ⟨NH,d0,z0,h1,E,h3,h4,-⟩:=az (hT _ _ hi);obtain ⟨Pj,a4,a5,a6,Y,a7,Z,-⟩:=az (hT _ _ X);obtain ⟨info,de,z,J,e2,S,e4,e5,e6,e7⟩:=az (hT _ _ CL);rw [h4] at hk;rw [Z] at M;obtain rfl:=aT hk;obtain rfl:=aT M;obtain ⟨rfl,rfl,rfl,l,F,p,⟨base,a0,hold⟩,G,k,xc,a1,C⟩:=Bl hM e5 e6 e7 h;obtain ⟨q1,q2⟩:=fK hM _ _ D;have f1:cl.argTypes=#[t,t']:=by apply Array.ext';exact W
     have f2:cl.args.map a.eval=#[.slice base m c,.slice G k xc]:=by
      apply Array.ext';rw [Array.toList_map,q1];simp [a0,a1]
     have N:∀{v w'},(Builtin.append_ #[t,t] o.type #[.slice base m c,.slice G k xc]).run P w=.ok v w'->(execOp a.eval o).run P w=.ok (.value v) w':=by
      intro v w' hr;simp only [execOp,L,resolve,pR,pure_bind,invoke,f1,f2,builtin];refine dE ?_;rw [zk E Y];exact hr
     have fin:∀{v w' st' β'},(Builtin.append_ #[t,t] o.type #[.slice base m c,.slice G k xc]).run P w=.ok v w'->Mod n V0 bA β0 st' β' (a.put (some d) v) w' V->K st' V ->
       ∃v w' st' β',(execOp a.eval o).run P w=.ok (.value v) w'/\Mod n V0 bA β0 st' β' (a.put (some d) v) w' V/\K st' V:=fun q u A=>⟨_,_,_,_,N q,u,A⟩
     have MR:∀xs,V.sl G xs->xs.length=k*info.size->(∀v∈xs,v.oneCell'=true)->Src w G k info.size xs:=by
      intro xs j f h1;refine ⟨f,h1,?_⟩
      cases G with
      | some ad=>exact .inl ⟨ad,rfl,wB hM j⟩
      | none=>
       refine .inr ⟨rfl,?_⟩
       have:xs=[]:=by
        cases xs with
        | nil=>rfl
        | cons y r=>obtain ⟨ad,e,-⟩:=j 0 y (by simp);cases e
       rw [this] at f;rcases Nat.mul_eq_zero.1 f.symm with h|h
       ·exact h
       ·exact absurd h F
     rcases hold with ⟨s,rfl,rfl,hg,O⟩|⟨rfl,rfl⟩
     ·rcases C with rfl|⟨xs,rfl,f,g⟩
      ·obtain ⟨xs,j,f,hv⟩:=hv;obtain ⟨v,w',st',β',q,u,A⟩:=uK (ty:=o.type) (xc:=xc) hM hd E J S p l hg O (MR xs j f hv.2.2.2.2.1) hv;exact fin q u A
      ·have H:xs.length / info.size=k:=by rw [f];exact Nat.mul_div_cancel _ (by omega)
       simp only [tJ,H] at hv;obtain ⟨v,w',st',β',q,u,A⟩:=uK (ty:=o.type) (xc:=xc) hM hd E J S p l hg O ⟨f,hv.2.2.2.2.1,g hv.2.2.2.2.1⟩ hv;exact fin q u A
     ·obtain ⟨vs,Rm,Q,B,R,hv⟩:=hv;rcases C with rfl|⟨xs,rfl,f,g⟩
      ·obtain ⟨xs,j,f,a2,a3⟩:=hv;by_cases I:k=0
       ·have U:=a2 I;subst I;refine fin (v:=.slice base m c) (w':=w) ?_ (hM.put (x:=.c (.v (.slice base m c))) hd rfl (fun s hs=>by cases hs)) U
        cases G with
        | none=>exact uJ E J base m c xc B
        | some ad=>cases base<;>simp [Builtin.append_,aj E,aG J,Builtin.lenOf,Builtin.firstCells,loadCells,loadCellsFrom,storeCells,B]
       ·have U:=a3 I;obtain ⟨v,w',st',β',q,u,A⟩:=uL (ty:=o.type) (xc:=xc) hM hd E J S p l Rm Q B R F (MR xs j f U.2.2.2.1) U;exact fin q u A
      ·have H:xs.length / info.size=k:=by rw [f];exact Nat.mul_div_cancel _ (by omega)
       dsimp only at hv;rw [H] at hv;obtain ⟨v,w',st',β',q,u,A⟩:=uL (ty:=o.type) (xc:=xc) hM hd E J S p l Rm Q B R F ⟨f,hv.2.2.2.1,g hv.2.2.2.1⟩ hv;exact fin q u A
    ·cases h
   ·cases h
  ·cases h
 ·cases h
theorem Ft (hT:cO.ok P T)(hM:Mod n V0 bA β0 st β a w V){o:Oper}{K:St->View->Prop}{d:Nat}(hd:d<n){s:Nat}{vs:List Value}{m c:Nat}{src:OA×Nat ⊕ List Value}{size bytes:Nat}{ty:TypeId}
  (h:aH T st.a_ st.boxes o.op=.rF s vs m c src size bytes ty)(hv:tJ (.rF s vs m c src size bytes ty) (some d) st V K) :
  ∃v w' st' β',(execOp a.eval o).run P w=.ok (.value v) w'/\Mod n V0 bA β0 st' β' (a.put (some d) v) w' V/\K st' V:=by
 obtain ⟨U,u,W⟩:=(fL (T:=T) (ρ:=st.a_) (bx:=st.boxes) (op:=o.op)).2.2 (by rw [h];rfl);rw [u] at h;simp only [aH,W] at h;split at h
 ·rename_i b x t t' l J;split at h
  ·rename_i i i' hi L;split at h
   ·rename_i e e' X A;split at h
    ·rename_i ei CL;obtain ⟨NH,d0,z0,Y,M,h3,h4,-⟩:=az (hT _ _ hi);obtain ⟨Pj,a0,a1,a2,N,a3,O,-⟩:=az (hT _ _ L);obtain ⟨info,de,z,Z,e2,e3,e4,e5,e6,e7⟩:=az (hT _ _ CL);rw [h4] at X;rw [O] at A;obtain rfl:=aT X;obtain rfl:=aT A;obtain ⟨rfl,rfl,rfl,B,p,C,⟨Q,D⟩,q,k,xc,R,E⟩:=yh hM e5 e6 e7 h;obtain ⟨q1,q2⟩:=fK hM _ _ l;have f1:U.argTypes=#[t,t']:=by apply Array.ext';exact J
     have f2:U.args.map a.eval=#[.slice (mA (β s) c) m c,.slice q k xc]:=by
      apply Array.ext';rw [Array.toList_map,q1];simp [Q,R]
     have F:∀{v w'},(Builtin.append_ #[t,t] o.type #[.slice (mA (β s) c) m c,.slice q k xc]).run P w=.ok v w'->(execOp a.eval o).run P w=.ok (.value v) w':=by
      intro v w' hr;simp only [execOp,u,resolve,W,pure_bind,invoke,f1,f2,builtin];refine dE ?_;rw [zk M N];exact hr
     have fin:∀{v w' st' β'},(Builtin.append_ #[t,t] o.type #[.slice (mA (β s) c) m c,.slice q k xc]).run P w=.ok v w'->Mod n V0 bA β0 st' β' (a.put (some d) v) w' V->K st' V ->
       ∃v w' st' β',(execOp a.eval o).run P w=.ok (.value v) w'/\Mod n V0 bA β0 st' β' (a.put (some d) v) w' V/\K st' V:=fun G H I=>⟨_,_,_,_,F G,H,I⟩
     have MR:∀xs,V.sl q xs->xs.length=k*info.size->(∀v∈xs,v.oneCell'=true)->Src w q k info.size xs:=by
      intro xs g f Y;refine ⟨f,Y,?_⟩
      cases q with
      | some ad=>exact .inl ⟨ad,rfl,wB hM g⟩
      | none=>
       refine .inr ⟨rfl,?_⟩
       have:xs=[]:=by
        cases xs with
        | nil=>rfl
        | cons y r=>obtain ⟨ad,e,-⟩:=g 0 y (by simp);cases e
       rw [this] at f;rcases Nat.mul_eq_zero.1 f.symm with h|h
       ·exact h
       ·exact absurd h p
     rcases E with rfl|⟨xs,rfl,f,j⟩
     ·obtain ⟨xs,g,f,hv⟩:=hv;obtain ⟨v,w',st',β',G,H,I⟩:=vO (ty:=o.type) (xc:=xc) hM hd M Z e3 C B p D (MR xs g f hv.2.2.2.2.1) hv;exact fin G H I
     ·have S:xs.length / info.size=k:=by rw [f];exact Nat.mul_div_cancel _ (by omega)
      simp only [tJ,S] at hv;obtain ⟨v,w',st',β',G,H,I⟩:=vO (ty:=o.type) (xc:=xc) hM hd M Z e3 C B p D ⟨f,hv.2.2.2.2.1,j hv.2.2.2.2.1⟩ hv;exact fin G H I
    ·cases h
   ·cases h
  ·cases h
 ·cases h
theorem Dj (hT:cO.ok P T)(hM:Mod n V0 bA β0 st β a w V){o:Oper}{K:St->View->Prop}{next:Act->World->Prop}{Q:Exit->Act->World->Prop}
  (hd:∀d,o.dst=some d->d<n)(hv:tJ (aH T st.a_ st.boxes o.op) o.dst st V K)
  (hK:∀st' β' a' w' V',Mod n V0 bA β0 st' β' a' w' V'->K st' V'->next a' w'):o.wp P a w next Q:=by
 unfold Oper.wp;generalize hq:aH T st.a_ st.boxes o.op=q at hv
 cases q with
 | fail=>exact hv.elim
 | ret sc x=>
  obtain ⟨g,h⟩:=(dg sc _).1 hv;obtain ⟨e,f⟩:=HU hT hM hq g;rw [e];exact hK _ _ _ _ _ (hM.Fl hd rfl f) h
 | new sc b x=>
  simp only [tJ] at hv
  cases hdst:o.dst with
  | none=>rw [hdst] at hv;exact hv.elim
  | some d=>
   rw [hdst] at hv;dsimp only at hv;split at hv
   ·rename_i u;obtain ⟨g,h⟩:=(dg sc _).1 hv;obtain ⟨v,e,f,i⟩:=HT hT hM hq g;rw [e];have j:=hM.new (hd d hdst) u i
    have:=j.put (x:=x d) (v:=v) (hd d hdst) (f d).1 (by
     intro s k;rw [(f d).2] at k;simp at k;subst k;exact ⟨b,by rw [ao,if_pos rfl]⟩)
    simp only [Oper.upon_value,hdst];exact hK _ _ _ _ _ this h
   ·exact hv.elim
 | tI sc s b=>
  simp only [tJ] at hv
  cases hdst:o.dst with
  | some d=>rw [hdst] at hv;exact hv.elim
  | none=>
   rw [hdst] at hv;dsimp only at hv;obtain ⟨g,h⟩:=(dg sc _).1 hv;obtain ⟨z,w',e,rx,f⟩:=HV hT hM hq g;rw [e];rcases rx with rfl|⟨v,rfl⟩
   ·simp only [Oper.upon_skip,hdst];exact hK _ _ _ _ _ f h
   ·simp only [Oper.upon_value,hdst];exact hK _ _ _ _ _ f h
 | rd p sh=>
  obtain ⟨x,g,h,r⟩:=uB.dY sh hv;have t:(∃c,x=.c c/\∃s',sh=.one s')\/∃cs l,x=.agg cs/\sh=.agg l/\cs.length=l.length:=h;obtain ⟨e,f⟩:=Kq hT hM hq g t r;rw [e];exact hK _ _ _ _ _ (hM.Fl hd rfl (bQ g)) f
 | nY vs of size sh=>
  obtain ⟨x,g,h,r,y⟩:=uB.dY sh hv;have e:=Di hT hM hq g h r;rw [e];exact hK _ _ _ _ _ (hM.Fl hd rfl (bQ g)) y
 | rF s vs m c src size bytes ty=>
  cases hdst:o.dst with
  | none=>rw [hdst] at hv;exact hv.elim
  | some d=>
   rw [hdst] at hv;obtain ⟨v,w',st',β',e,f,i⟩:=Ft hT hM (hd d hdst) hq hv;rw [e];simp only [Oper.upon_value,hdst];exact hK _ _ _ _ _ f i
 | app old ba vs m c src size bytes ty=>
  cases hdst:o.dst with
  | none=>rw [hdst] at hv;exact hv.elim
  | some d=>
   rw [hdst] at hv;obtain ⟨v,w',st',β',e,f,i⟩:=HS hT hM (hd d hdst) hq hv;rw [e];simp only [Oper.upon_value,hdst];exact hK _ _ _ _ _ f i
end Go.Eng
