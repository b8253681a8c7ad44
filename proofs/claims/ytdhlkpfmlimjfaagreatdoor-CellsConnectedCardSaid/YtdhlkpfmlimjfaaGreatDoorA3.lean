import Derived.Test.YtdhlkpfmlimjfaaGreatDoorA2
set_option linter.unusedVariables false
open Go.IntKind (i64 u64 u32)
namespace Go.Eng
variable {P:Program} {T:ck} {n:Nat} {V0:View} {aW:zS} {β0:Nat->Nat} {st:St} {β:Nat->Nat} {a:Act} {w:World} {V:View}
theorem CV (hT:ck.ok P T)(hM:Mod n V0 aW β0 st β a w V){o:Oper}{sc:List Prop}{b:aG}{x:Nat->SV}(h:aD T st.aP st.boxes o.op=.new sc b x)(hsc:∀p∈sc,p) :
  ∃v,(execOp a.eval o).run P w=.ok (.value v) (w.alloc (b.obj β))/\(∀d,v=(x d).den (cL β d w.heap.size)/\(x d).ids=[d])/\(∀s∈b.cs.ids,∃b',st.boxes s=some b'):=by
 have hx:∀d,SV.den (cL β d w.heap.size) (.c (.ptr d 0))=.pointer (some ⟨w.heap.size,0,none⟩):=fun d=>by simp [SV.den,C.den,aI]
 have hy:∀d m c,SV.den (cL β d w.heap.size) (.c (.jQ d 0 m c))=.slice (some ⟨w.heap.size,0,none⟩) m c:=fun d m c=>by simp [SV.den,C.den,aI]
 unfold aD at h
 split at h
 case h_1=>split at h<;>cases h
 case h_2=>split at h<;>cases h
 case h_3=>split at h<;>(try split at h)<;>cases h
 case h_4 op t hop=>
  split at h
  ·rename_i i hi
   obtain ⟨info,d,z,h1,h2,h3,h4,h5,h6,h7⟩:=aw (hT _ _ hi)
   simp only [Q.new.injEq] at h;obtain ⟨rfl,rfl,rfl⟩:=h
   obtain ⟨z1,z2⟩:=dh (β:=β) h7
   refine ⟨.pointer (some ⟨w.heap.size,0,none⟩),?_,fun d=>⟨(hx d).symm,rfl⟩,fun s hs=>by rw [show Cells.ids (.lit i.zero)=[] from z2] at hs;cases hs⟩
   simp only [execOp,hop]
   refine cQ ?_
   simp only [Instr.alloc,Sem.run_bind,gg h1 h3,Result.andThen_ok,newVar,newRow,run_newObj,Sem.run_pure,aG.obj,Cells.den,z1]
   rfl
  ·cases h
 case h_5 op t y hop=>
  split at h
  ·rename_i v hv
   split at h
   ·cases h
   ·rename_i hnt
    simp only [Q.new.injEq] at h;obtain ⟨rfl,rfl,rfl⟩:=h
    obtain ⟨c1,-⟩:=SV.nJ (β:=β) hnt hsc
    refine ⟨.pointer (some ⟨w.heap.size,0,none⟩),?_,fun d=>⟨(hx d).symm,rfl⟩,fun s hs=>hM.live hv s (SV.nK hnt hs)⟩
    simp only [execOp,hop,hM.eval hv]
    refine cQ ?_
    simp only [Instr.box,newVar,newRow,Sem.run_bind,run_newObj,Result.andThen_ok,Sem.run_pure,c1,aG.obj,Cells.den]
    rfl
  ·cases h
 case h_6=>
  split at h
  ·split at h
   ·split at h
    ·split at h<;>cases h
    ·cases h
   ·split at h
    ·split at h<;>cases h
    ·cases h
   ·cases h
  ·cases h
 case h_7 op t len parts hop=>
  split at h
  ·rename_i i ps hi hps
   split at h
   ·rename_i e hk
    split at h
    ·rename_i ei yf
     split at h
     ·rename_i hc
      simp only [Bool.and_eq_true,beq_eq,Bool.not_eq_eq_eq_not] at hc
      obtain ⟨⟨c1,c2⟩,c3⟩:=hc
      have c1:=Nat.le_of_ble_eq_true c1
      have c3:ei.size≠0:=fun e=>by rw [e] at c3;cases c3
      split at h
      ·rename_i cs hcs
       simp only [Q.new.injEq] at h;obtain ⟨rfl,rfl,rfl⟩:=h
       obtain ⟨h1,h2⟩:=qu hT hM (hT _ _ hi) hk hps yf c1 c2 c3 hcs hsc
       exact ⟨_,by simp only [execOp,hop];exact cQ h1,fun d=>⟨(hy d _ _).symm,rfl⟩,h2⟩
      ·cases h
     ·cases h
    ·cases h
   ·cases h
  ·cases h
 case h_8=>
  split at h
  ·unfold gJ at h
   split at h
   ·split at h
    ·split at h
     ·split at h<;>cases h
     ·split at h<;>cases h
     ·split at h<;>cases h
    ·cases h
    ·split at h<;>cases h
    ·cases h
   ·split at h<;>cases h
   ·cases h
  ·cases h
 case h_9=>
  split at h
  ·unfold fj at h
   split at h
   ·split at h
    ·split at h
     ·split at h<;>cases h
     ·split at h<;>cases h
     ·split at h
      ·cases h
      ·split at h<;>cases h
     ·cases h
    ·cases h
   ·cases h
  ·cases h
 case h_10=>split at h<;>cases h
 case h_11=>
  split at h
  ·have key:∀{op xt} {p q:C},wv T op xt p q≠.new sc b x:=by
    intro op xt p q h
    have hi:∀k m m',ka op k m m'≠.new sc b x:=fun k m m' h=>by cases op<;>cases h
    have hn:∀neg k,wB neg k p q≠.new sc b x:=fun neg k h=>by
     unfold wB at h
     split at h<;>(try split at h)<;>(try split at h)<;>cases h
    unfold wv at h
    split at h
    ·split at h
     ·split at h
      ·split at h
       ·exact hi _ _ _ h
       ·exact hi _ _ _ h
       ·split at h
        ·exact hi _ _ _ h
        ·cases h
      ·cases h
     ·split at h
      ·split at h<;>cases h
      ·cases h
     ·split at h
      ·exact hn _ _ h
      ·exact hn _ _ h
      ·cases h
    ·cases h
   split at h
   ·split at h
    ·exact (key h).elim
    ·cases h
   ·exact (key h).elim
  ·cases h
 case h_12=>split at h<;>cases h
 case h_13=>split at h<;>cases h
 case h_14=>split at h<;>cases h
 case h_15=>
  split at h
  ·split at h<;>cases h
  ·cases h
 case h_16=>split at h<;>(try split at h)<;>(try split at h)<;>cases h
 case h_17 op t l c hop=>
  split at h
  ·rename_i i lv cv hi hl hc
   unfold uZ at h
   split at h
   ·rename_i e hk
    split at h
    ·rename_i ei yf
     split at h
     ·rename_i k1 m1 k2 m2
      split at h
      ·rename_i zs hzs
       split at h
       ·cases h
       ·rename_i hcond
        simp only [Bool.or_eq_true,beq_eq,Bool.not_eq_eq_eq_not,not_or] at hcond
        obtain ⟨⟨g1,g2⟩,g3⟩:=hcond
        simp only [Q.new.injEq] at h;obtain ⟨rfl,rfl,rfl⟩:=h
        have g3:ei.size=zs.length:=by
         rcases hb:Nat.beq ei.size zs.length with _|_
         ·rw [hb] at g3;exact absurd rfl g3
         ·exact beq_eq.1 hb
        have hm:=tz (P:=P) (w:=w) (β:=β) hT (hT _ _ hi) hk yf (k1:=k1) (k2:=k2) (l:=m1) (c:=m2) g1 g2 hzs g3 (hsc _ (by simp)) (hsc _ (by simp)) (hsc _ (by simp))
        refine ⟨_,?_,fun d=>⟨(hy d _ _).symm,rfl⟩,fun s hs=>by simp [Cells.ids] at hs⟩
        simp only [execOp,hop,hM.eval hl,hM.eval hc]
        exact cQ hm
      ·cases h
     ·cases h
    ·cases h
   ·cases h
  ·cases h
 case h_18=>
  split at h
  ·split at h
   ·split at h
    ·unfold oa at h
     split at h<;>(try split at h)<;>(try split at h)<;>cases h
    ·cases h
   ·cases h
  ·cases h
 case h_19=>
  split at h
  ·split at h
   ·split at h
    ·split at h
     ·split at h
      ·cases h
      ·split at h<;>cases h
     ·cases h
    ·cases h
   ·cases h
  ·cases h
 case h_20=>
  split at h
  ·split at h
   ·split at h
    ·split at h
     ·split at h
      ·cases h
      ·cases h
      ·split at h<;>cases h
     ·cases h
    ·cases h
   ·cases h
  ·cases h
 case h_21=>
  split at h
  ·unfold fh at h
   split at h
   ·split at h
    ·split at h
     ·split at h<;>cases h
     ·cases h
    ·split at h
     ·split at h<;>cases h
     ·cases h
    ·cases h
   ·cases h
  ·cases h
 case h_22=>split at h<;>(try split at h)<;>(try split at h)<;>cases h
 case h_23=>
  split at h
  ·split at h
   ·split at h
    ·split at h
     ·split at h
      ·unfold bJ at h
       split at h
       ·cases h
       ·split at h
        ·cases h
        ·dsimp only at h
         split at h
         ·cases h
         ·split at h
          ·cases h
          ·split at h
           ·split at h<;>cases h
           ·cases h
          ·split at h
           ·split at h<;>cases h
           ·cases h
          ·cases h
      ·cases h
     ·cases h
    ·cases h
   ·cases h
  ·split at h
   ·exfalso
    rcases jC (T:=T) (bx:=st.boxes) with e|⟨_,_,_,e⟩<;>(rw [e] at h;cases h)
   ·cases h
  ·split at h
   ·split at h
    ·unfold iQ at h
     split at h
     ·cases h
     ·split at h<;>(try split at h)<;>(try split at h)<;>cases h
    ·cases h
   ·cases h
  ·cases h
 case h_24=>
  split at h
  ·split at h<;>cases h
  ·unfold iR at h
   split at h
   ·split at h
    ·split at h
     ·split at h<;>cases h
     ·cases h
    ·cases h
   ·cases h
  ·cases h
 case h_25=>
  split at h
  ·unfold rQ at h
   split at h
   ·cases h
   ·split at h<;>cases h
  ·cases h
 case h_26=>cases h
def cq:Q->Nat
 | .fail=>0|.ret ..=>1|.new ..=>2|.pC ..=>3|.rd ..=>4|.kY ..=>5|.app ..=>6|.nV ..=>6
theorem lP {op:BinOp}{k:IntKind}{x y:Int}:cq (ka op k x y)<=1:=by cases op<;>exact Nat.le_refl _
theorem zg {neg:Bool}{k:TK}{x y:C}:cq (wB neg k x y)<=1:=by
 unfold wB;split<;>(try split)<;>(try split)<;>first|exact Nat.le_refl _|exact Nat.zero_le _
theorem kZ {i:TI}{cs:List C}{k:Int}:cq (iR T i cs k)<=1:=by
 unfold iR
 split
 ·split
  ·split
   ·split<;>first|exact Nat.le_refl _|exact Nat.zero_le _
   ·exact Nat.zero_le _
  ·exact Nat.zero_le _
 ·exact Nat.zero_le _
theorem mY {op:BinOp}{xt:TypeId}{x y:C}:cq (wv T op xt x y)<=1:=by
 unfold wv
 split
 ·split
  ·split
   ·split
    ·exact lP
    ·exact lP
    ·split
     ·exact lP
     ·exact Nat.zero_le _
   ·exact Nat.zero_le _
  ·split
   ·split<;>first|exact Nat.le_refl _|exact Nat.zero_le _
   ·exact Nat.zero_le _
  ·split
   ·exact zg
   ·exact zg
   ·exact Nat.zero_le _
 ·exact Nat.zero_le _
theorem sf {sz:Nat}{x:SV}{lo hi mx:Option SV}:cq (oa sz x lo hi mx)<=1:=by
 unfold oa;split<;>(try split)<;>(try split)<;>first|exact Nat.le_refl _|exact Nat.zero_le _
theorem km {i:TI}{x ix:SV}:cq (fh T i x ix)<=1:=by
 unfold fh;split<;>(try split)<;>(try split)<;>(try split)<;>first|exact Nat.le_refl _|exact Nat.zero_le _
theorem mZ {b:Builtin}{k:TK}{xs:List SV}:cq (iQ b k xs)<=1:=by
 unfold iQ;split<;>(try split)<;>(try split)<;>(try split)<;>first|exact Nat.le_refl _|exact Nat.zero_le _
theorem C4 {i:TI}{l c:SV}:cq (uZ T i l c)=0\/cq (uZ T i l c)=2:=by
 unfold uZ;split<;>(try split)<;>(try split)<;>(try split)<;>(try split)<;>first|exact .inl rfl|exact .inr rfl
theorem lR {bx:Nat->Option aG}{i:TI}{a x:SV}:cq (fj bx i a x)=0\/cq (fj bx i a x)=3:=by
 unfold fj;split<;>(try split)<;>(try split)<;>(try split)<;>(try split)<;>first|exact .inl rfl|exact .inr rfl
theorem oe {bx:Nat->Option aG}{i:TI}{x:SV}:cq (gJ bx i x)=0\/cq (gJ bx i x)=1\/cq (gJ bx i x)=4\/cq (gJ bx i x)=5:=by
 unfold gJ;split<;>(try split)<;>(try split)<;>(try split)<;>first|exact .inl rfl|exact .inr (.inl rfl)|exact .inr (.inr (.inl rfl))|exact .inr (.inr (.inr rfl))
theorem kl {bx:Nat->Option aG}{e:TypeId}{ei:TI}{b x:SV}:cq (bJ bx e ei b x)=0\/cq (bJ bx e ei b x)=6:=by
 unfold bJ
 split
 ·exact .inl rfl
 ·split
  ·exact .inl rfl
  ·dsimp only
   split
   ·exact .inl rfl
   ·split<;>(try split)<;>(try split)<;>first|exact .inl rfl|exact .inr rfl
theorem lQ {bx:Nat->Option aG}{t:TypeId}{x:SV}:cq (jB T bx t x)=0\/cq (jB T bx t x)=3:=by
 rcases jC (T:=T) (bx:=bx) (t:=t) (x:=x) with e|⟨_,_,_,e⟩<;>rw [e]<;>first|exact .inl rfl|exact .inr rfl
theorem dZ {ρ:Operand->Option SV}{bx:Nat->Option aG}{op:Op} :
  (cq (aD T ρ bx op)=3->((∃t a x,op=.store t a x)\/∃c,op=.call c/\c.callee=.builtin .clear))/\(cq (aD T ρ bx op)=4\/cq (aD T ρ bx op)=5->∃t a,op=.load t a) /\
  (cq (aD T ρ bx op)=6->∃c,op=.call c/\c.callee=.builtin .append):=by
 have eV:∀{q:Q},cq q<=1->(cq q=3->((∃t a x,op=.store t a x)\/∃c,op=.call c/\c.callee=.builtin .clear))/\(cq q=4\/cq q=5->∃t a,op=.load t a)/\(cq q=6->∃c,op=.call c/\c.callee=.builtin .append):=by
  intro q h;exact ⟨by omega,by omega,by omega⟩
 have Pg:∀{q:Q},cq q=0\/cq q=2->(cq q=3->((∃t a x,op=.store t a x)\/∃c,op=.call c/\c.callee=.builtin .clear))/\(cq q=4\/cq q=5->∃t a,op=.load t a)/\(cq q=6->∃c,op=.call c/\c.callee=.builtin .append):=by
  intro q h;exact ⟨by omega,by omega,by omega⟩
 unfold aD
 split
 case h_8=>
  split
  ·refine ⟨fun h=>?_,fun _=>⟨_,_,rfl⟩,fun h=>?_⟩
   ·rcases oe (bx:=bx) with h'|h'|h'|h'<;>(rw [h'] at h;cases h)
   ·rcases oe (bx:=bx) with h'|h'|h'|h'<;>(rw [h'] at h;cases h)
  ·exact eV (Nat.zero_le _)
 case h_9=>
  split
  ·refine ⟨fun _=>.inl ⟨_,_,_,rfl⟩,fun h=>?_,fun h=>?_⟩
   ·rcases lR (bx:=bx) with h'|h'<;>(rw [h'] at h;rcases h with h|h<;>cases h)
   ·rcases lR (bx:=bx) with h'|h'<;>(rw [h'] at h;cases h)
  ·exact eV (Nat.zero_le _)
 case h_11=>
  split
  ·split
   ·split
    ·exact eV mY
    ·exact eV (Nat.zero_le _)
   ·exact eV mY
  ·exact eV (Nat.zero_le _)
 case h_17=>
  split
  ·exact Pg C4
  ·exact eV (Nat.zero_le _)
 case h_18=>
  split
  ·split
   ·split
    ·exact eV sf
    ·exact eV (Nat.zero_le _)
   ·exact eV (Nat.zero_le _)
  ·exact eV (Nat.zero_le _)
 case h_21=>
  split
  ·exact eV km
  ·exact eV (Nat.zero_le _)
 case h_23 c=>
  split
  ·rename_i hc
   refine ⟨fun h=>?_,fun h=>?_,fun _=>⟨c,rfl,hc⟩⟩
   ·exfalso
    split at h<;>(try split at h)<;>(try split at h)<;>(try split at h)<;>first|(rcases kl (bx:=bx) with h'|h'<;>(rw [h'] at h;cases h))|cases h
   ·exfalso
    split at h<;>(try split at h)<;>(try split at h)<;>(try split at h)<;>first|(rcases kl (bx:=bx) with h'|h'<;>(rw [h'] at h;rcases h with h|h<;>cases h))|(rcases h with h|h<;>cases h)
  ·rename_i hc
   split
   ·refine ⟨fun _=>.inr ⟨c,rfl,hc⟩,fun h=>?_,fun h=>?_⟩
    ·rcases lQ (T:=T) (bx:=bx) with h'|h'<;>(rw [h'] at h;rcases h with h|h<;>cases h)
    ·rcases lQ (T:=T) (bx:=bx) with h'|h'<;>(rw [h'] at h;cases h)
   ·exact eV (Nat.zero_le _)
  ·split
   ·split
    ·exact eV mZ
    ·exact eV (Nat.zero_le _)
   ·exact eV (Nat.zero_le _)
  ·exact eV (Nat.zero_le _)
 case h_24=>
  split
  ·split
   ·exact eV (Nat.le_refl _)
   ·exact eV (Nat.zero_le _)
  ·exact eV kZ
  ·exact eV (Nat.zero_le _)
 case h_25=>
  split
  ·unfold rQ
   split
   ·exact eV (Nat.zero_le _)
   ·split
    ·exact eV (Nat.le_refl _)
    ·exact eV (Nat.zero_le _)
  ·exact eV (Nat.zero_le _)
 all_goals
  first
  | exact eV (Nat.zero_le _)
  | ((repeat' split)<;>first|exact eV (Nat.zero_le _)|exact eV (Nat.le_refl _)|exact Pg (.inr rfl))
theorem AO (hT:ck.ok P T)(hM:Mod n V0 aW β0 st β a w V){t:TypeId}{x:SV}{sc:List Prop}{s:Nat}{b:aG}(h:jB T st.boxes t x=.pC sc s b)(hsc:∀p∈sc,p)(ty:TypeId)(cs:Array Bool) :
  ∃w',(builtin .clear #[t] ty cs #[x.den β]).run P w=.ok (.value (.tuple #[])) w'/\Mod n V0 aW β0 (st.box s b) β a w' V:=by
 unfold jB at h
 split at h
 ·rename_i i hi
  split at h
  ·rename_i e hk
   split at h
   ·rename_i ei yf
    split at h
    ·rename_i zs g o k c hz
     split at h
     ·rename_i vs et hb
      split at h
      ·cases h
      ·rename_i hc
       simp only [Q.pC.injEq] at h;obtain ⟨rfl,rfl,rfl⟩:=h
       simp only [Bool.or_eq_true,beq_eq,Bool.not_eq_true',not_or,Bool.not_eq_false,List.all_eq_true] at hc
       obtain ⟨⟨c1,c2⟩,c3⟩:=hc
       obtain ⟨info,d,z,h1,h2,h3,h4,h5,h6,h7⟩:=aw (hT _ _ hi)
       obtain ⟨fv,ed,ez,e1,e2,e3,e4,e5,e6,e7⟩:=aw (hT _ _ yf)
       rw [h4] at hk
       obtain rfl:=aL hk
       obtain ⟨z1,z2⟩:=dh (β:=β) e7
       obtain ⟨d1,-⟩:=eg (β:=β) hz
       have hzs:ez.cells.size=fv.size:=by rw [←z1,d1];simp [←e5,c2]
       have QW:ez.cells.toList=zs:=by rw [←d1,←z1]
       have hle:o+k*ei.size<=vs.length:=hsc _ (by simp)
       have hzl:∀m,(mc m zs).length=m*ei.size:=fun m=>by
        rw [nw,c2]
        simp [List.length_flatten]
       have hz1:∀v∈mc k zs,v.oneCell'=true:=fun v hv=>by
        rw [nw] at hv
        obtain ⟨l,hl,hv⟩:=List.mem_flatten.1 hv
        rw [List.eq_of_mem_replicate hl] at hv
        exact c3 v hv
       have hrow:w.heap[β g]?=some (.cells vs.toArray et (0,0)):=hM.row hb bM
       have key:=run_storeCells_at (P:=P) (β g) o et (mc k zs) 0 vs.toArray w hrow (by simpa [hzl] using hle) hz1
       simp only [Nat.add_zero,hzl] at key
       refine ⟨w.setRow (β g) (vs.take o++mc k zs++vs.drop (o+k*ei.size)).toArray,?_,hM.pC hb bM (by intro s' hs';simp [Cells.ids] at hs') (by rw [dg hrow];rfl) rfl rfl rfl⟩
       have hrun:(Builtin.clear_ #[t] ty #[SV.den β (.c (.jQ g o k c))]).run P w=.ok (.tuple #[]) (w.setRow (β g) (vs.take o++mc k zs++vs.drop (o+k*ei.size)).toArray):=by
        cases k with
        | zero=>
         have e0:(vs.take o++mc 0 zs++vs.drop (o+0*ei.size)).toArray=vs.toArray:=by
          rw [nw];simp
         rw [e0,setRow_self w (β g) vs.toArray et (0,0) hrow]
         simp [Builtin.clear_,ag h2,SV.den,C.den]
        | succ k=>
         have ek:(Builtin.zeroCells ez.cells (k+1)).toList=mc (k+1) zs:=by
          unfold Builtin.zeroCells
          rw [nC (z:=ez) (m:=k+1) _ rfl,nw,QW]
         have Rk:(zeroValue e).run P w=.ok ez w:=gg e1 e3 w
         simp only [List.append_assoc] at key ⊢
         simp [Builtin.clear_,ag h2,SV.den,C.den,Rk,ek,key]
       simp only [builtin]
       exact cQ hrun
     ·cases h
    ·cases h
   ·cases h
  ·cases h
 ·cases h
theorem CX (hT:ck.ok P T)(hM:Mod n V0 aW β0 st β a w V){o:Oper}{sc:List Prop}{s:Nat}{b:aG}(h:aD T st.aP st.boxes o.op=.pC sc s b)(hsc:∀p∈sc,p) :
  ∃nx w',(execOp a.eval o).run P w=.ok nx w'/\(nx=.skip\/∃v,nx=.value v)/\Mod n V0 aW β0 (st.box s b) β a w' V:=by
 rcases (dZ (T:=T) (ρ:=st.aP) (bx:=st.boxes) (op:=o.op)).1 (by rw [h];rfl) with ⟨t,y,x,hop⟩|⟨c,hop,mC⟩
 ·rw [hop] at h
  simp only [aD] at h
  split at h
  ·rename_i i av xv hi Df hxv
   obtain ⟨w',h1,h2⟩:=AQ hM (hT _ _ hi) (hM.live hxv) h hsc
   refine ⟨.skip,w',?_,.inl rfl,h2⟩
   simp only [execOp,hop,hM.eval Df,hM.eval hxv]
   exact KG h1
  ·cases h
 ·obtain ⟨BA,args,ts⟩:=c
  dsimp only at mC
  subst mC
  rw [hop] at h
  simp only [aD] at h
  split at h
  ·rename_i x t hxs hts
   obtain ⟨h1,-⟩:=dY hM _ _ hxs
   have e1:ts=#[t]:=by apply Array.ext';exact hts
   have e2:args.map a.eval=#[x.den β]:=by apply Array.ext';rw [Array.toList_map];exact h1
   obtain ⟨w',k1,k2⟩:=AO hT hM h hsc o.type (args.map fun|.const _=>true|_=>false)
   refine ⟨.value (.tuple #[]),w',?_,.inr ⟨_,rfl⟩,k2⟩
   simp only [execOp,hop,resolve,pure_bind,invoke,e1,e2]
   exact k1
  ·cases h
theorem EV (hT:ck.ok P T)(hM:Mod n V0 aW β0 st β a w V){o:Oper}{p:OA}{sh:qi}(h:aD T st.aP st.boxes o.op=.rd p sh){x:SV}{k:Prop}
  (hx:x.ids=[])(hs:(∃c,x=.c c/\∃s',sh=.one s')\/∃cs l,x=.agg cs/\sh=.agg l/\cs.length=l.length)(hr:V.Fp p x k) :
  (execOp a.eval o).run P w=.ok (.value (x.den β)) w/\k:=by
 obtain ⟨t,y,hop⟩:=(dZ (T:=T) (ρ:=st.aP) (bx:=st.boxes) (op:=o.op)).2.1 (by rw [h];exact .inl rfl)
 rw [hop] at h
 simp only [aD] at h
 split at h
 ·rename_i i av hi Df
  unfold gJ at h
  split at h
  ·split at h
   ·split at h
    ·split at h<;>cases h
    ·split at h<;>cases h
    ·split at h<;>cases h
   ·cases h
   ·split at h<;>cases h
   ·cases h
  ·split at h
   ·rename_i hz
    simp only [Q.rd.injEq] at h
    obtain ⟨rfl,rfl⟩:=h
    obtain ⟨h1,h2⟩:=Is hM (hT _ _ hi) (beq_eq.1 hz) hx hs hr
    refine ⟨?_,h2⟩
    simp only [execOp,hop,hM.eval Df]
    exact cQ h1
   ·cases h
  ·cases h
 ·cases h
theorem yR (hT:ck.ok P T)(hM:Mod n V0 aW β0 st β a w V){o:Oper}{vs:List Value}{of size:Nat}{sh:qi}(h:aD T st.aP st.boxes o.op=.kY vs of size sh){x:SV}
  (hx:x.ids=[])(hs:(∃c,x=.c c/\∃s',sh=.one s')\/∃cs l,x=.agg cs/\sh=.agg l/\cs.length=l.length)(hr:Gp vs of size x) :
  (execOp a.eval o).run P w=.ok (.value (x.den β)) w:=by
 obtain ⟨t,y,hop⟩:=(dZ (T:=T) (ρ:=st.aP) (bx:=st.boxes) (op:=o.op)).2.1 (by rw [h];exact .inr rfl)
 rw [hop] at h
 simp only [aD] at h
 split at h
 ·rename_i i av hi Df
  unfold gJ at h
  split at h
  ·split at h
   ·split at h
    ·split at h<;>cases h
    ·split at h<;>cases h
    ·split at h<;>cases h
   ·rename_i hb
    simp only [Q.kY.injEq] at h
    obtain ⟨rfl,rfl,rfl,rfl⟩:=h
    have h1:=u_ hM (hT _ _ hi) (.inl hb) hx hs hr
    simp only [execOp,hop,hM.eval Df]
    exact cQ h1
   ·rename_i hb
    split at h
    ·cases h
    ·rename_i hz
     simp only [Q.kY.injEq] at h
     obtain ⟨rfl,rfl,rfl,rfl⟩:=h
     have h1:=u_ hM (hT _ _ hi) (.inr ⟨hb,fun e=>hz (by rw [e];rfl)⟩) hx hs hr
     simp only [execOp,hop,hM.eval Df]
     exact cQ h1
   ·cases h
  ·split at h<;>cases h
  ·cases h
 ·cases h
end Go.Eng
namespace Go.Eng
variable {P:Program} {T:ck} {n:Nat} {V0:View} {aW:zS} {β0:Nat->Nat} {st:St} {β:Nat->Nat} {a:Act} {w:World} {V:View}
theorem bN {x:Nat}{l:List Nat}:dC x l=true↔x∈l:=by
 induction l with
 | nil=>simp [dC]
 | cons y r ih=>
  simp only [dC,List.mem_cons]
  cases h:Nat.beq x y with
  | true=>simp [beq_eq.1 h]
  | false=>
   have:x≠y:=fun e=>by rw [e,Nat.beq_refl] at h;cases h
   simp [ih,this]
theorem dO {x:Nat}{l:List Nat}:dC x l=false↔x∉l:=by
 rw [←bN];cases dC x l<;>simp
theorem xY {l m:List Nat}:qM l m=true↔∀x∈l,x∉m:=by
 unfold qM
 rw [List.all_eq_true]
 constructor
 ·intro h x hx hm
  have:=h x hx
  rw [Bool.not_eq_true',dO] at this
  exact this hm
 ·intro h x hx
  rw [Bool.not_eq_true',dO]
  exact h x hx
theorem C.fq {L:List Nat}{β':Nat->Nat}(hβ:∀s∈L,β' s=β s)(c:C):(c.rel L β' (C.den β)).den β=c.den β/\∀s∈(c.rel L β' (C.den β)).ids,s∈c.ids/\s∉L:=by
 cases c with
 | v x=>exact ⟨rfl,fun s hs=>by cases hs⟩
 | w x=>exact ⟨rfl,fun s hs=>by cases hs⟩
 | tt=>exact ⟨rfl,fun s hs=>by cases hs⟩
 | ff=>exact ⟨rfl,fun s hs=>by cases hs⟩
 | ptr s o=>
  simp only [C.rel]
  cases h:dC s L with
  | true=>exact ⟨by simp [C.den,hβ s (bN.1 h)],fun s hs=>by cases hs⟩
  | false=>exact ⟨rfl,fun t ht=>⟨ht,by simp [C.ids] at ht;subst ht;exact dO.1 h⟩⟩
 | jQ s o n c=>
  simp only [C.rel]
  cases h:dC s L with
  | true=>exact ⟨by simp [C.den,hβ s (bN.1 h)],fun s hs=>by cases hs⟩
  | false=>exact ⟨rfl,fun t ht=>⟨ht,by simp [C.ids] at ht;subst ht;exact dO.1 h⟩⟩
 | ia s n c=>
  simp only [C.rel]
  cases h:dC s L with
  | true=>exact ⟨by simp [C.den,hβ s (bN.1 h)],fun s hs=>by cases hs⟩
  | false=>exact ⟨rfl,fun t ht=>⟨ht,by simp [C.ids] at ht;subst ht;exact dO.1 h⟩⟩
 | xQ f ss=>
  simp only [C.rel]
  cases h:qM ss L with
  | true=>exact ⟨rfl,fun t ht=>⟨ht,xY.1 h t ht⟩⟩
  | false=>exact ⟨rfl,fun s hs=>by cases hs⟩
theorem mQ {L:List Nat}{β':Nat->Nat}(hβ:∀s∈L,β' s=β s)(cs:List C) :
  (cs.map (C.rel L β' (C.den β))).map (C.den β)=cs.map (C.den β)/\∀s∈(cs.map (C.rel L β' (C.den β))).flatMap C.ids,s∈cs.flatMap C.ids/\s∉L:=by
 refine ⟨?_,fun s hs=>?_⟩
 ·rw [List.map_map];exact List.map_congr_left fun c _=>(C.fq hβ c).1
 ·obtain ⟨c',hc',hs⟩:=List.mem_flatMap.1 hs
  obtain ⟨c,hc,rfl⟩:=List.mem_map.1 hc'
  obtain ⟨h1,h2⟩:=(C.fq hβ c).2 s hs
  exact ⟨fx hc h1,h2⟩
theorem SV.fq {L:List Nat}{β':Nat->Nat}(hβ:∀s∈L,β' s=β s)(x:SV):(x.rel L β' (C.den β)).den β=x.den β/\∀s∈(x.rel L β' (C.den β)).ids,s∈x.ids/\s∉L:=by
 cases x with
 | c c=>exact C.fq hβ c
 | agg cs=>
  obtain ⟨h1,h2⟩:=mQ hβ cs
  exact ⟨by simp only [SV.rel,SV.den,h1],h2⟩
 | mf xs=>
  refine ⟨?_,fun s hs=>?_⟩
  ·simp only [SV.rel,SV.den,List.map_map]
   congr 2
   apply List.map_congr_left
   rintro ⟨b,cs⟩ -
   have h1:=(mQ hβ cs).1
   cases b with
   | true=>simp only [Function.comp,fP,h1]
   | false=>
    match cs with
    | []=>rfl
    | [x]=>simp only [Function.comp,List.map_cons,List.map_nil,fP];exact (C.fq hβ x).1
    | _::_::_=>rfl
  ·obtain ⟨y',hy',hs⟩:=List.mem_flatMap.1 hs
   obtain ⟨y,hy,rfl⟩:=List.mem_map.1 hy'
   obtain ⟨h1,h2⟩:=(mQ hβ y.2).2 s hs
   exact ⟨List.mem_flatMap.2 ⟨y,hy,h1⟩,h2⟩
theorem aG.fq {L:List Nat}{β':Nat->Nat}(hβ:∀s∈L,β' s=β s)(b:aG):(b.rel L β' (C.den β)).obj β=b.obj β/\∀s∈(b.rel L β' (C.den β)).cs.ids,s∈b.cs.ids/\s∉L:=by
 obtain ⟨cs,ty⟩:=b
 cases cs with
 | lit cs=>
  obtain ⟨h1,h2⟩:=mQ hβ cs
  exact ⟨by simp only [aG.rel,aG.obj,Cells.den,h1],h2⟩
 | row vs=>exact ⟨rfl,fun s hs=>by cases hs⟩
 | aN vs=>exact ⟨rfl,fun s hs=>by cases hs⟩
theorem aG.dJ {L:List Nat}{β':Nat->Nat}{J:C->Value}{b:aG}(h:(b.rel L β' J).live):b.live:=by
 obtain ⟨cs,ty⟩:=b
 cases cs with
 | lit cs=>exact bY
 | row vs=>exact bM
 | aN vs=>exact h
theorem vd {L:List Nat}{β':Nat->Nat}{J:C->Value}{t:Nat}{x:SV}(h:(st.rel L β' J).ao t=some x):∃y,st.ao t=some y/\x=y.rel L β' J:=by
 simp only [St.rel] at h
 cases hs:st.ao t with
 | none=>rw [hs] at h;cases h
 | some y=>rw [hs] at h;simp only [Option.some.injEq] at h;exact ⟨y,rfl,h.symm⟩
theorem d_ {L:List Nat}{β':Nat->Nat}{J:C->Value}{t:Nat}{x:aG}(h:(st.rel L β' J).boxes t=some x):t∉L/\∃y,st.boxes t=some y/\x=y.rel L β' J:=by
 simp only [St.rel] at h
 cases hm:dC t L with
 | true=>rw [hm] at h;cases h
 | false=>
  rw [hm] at h
  refine ⟨dO.1 hm,?_⟩
  cases hs:st.boxes t with
  | none=>rw [hs] at h;cases h
  | some y=>rw [hs] at h;simp only [cond_false,Option.some.injEq] at h;exact ⟨y,rfl,h.symm⟩
theorem dJ {L:List Nat}{β':Nat->Nat}{J:C->Value}{t:Nat}(h:∃b,st.boxes t=some b)(hn:t∉L):∃b,(st.rel L β' J).boxes t=some b:=by
 obtain ⟨b,hb⟩:=h
 refine ⟨b.rel L β' J,?_⟩
 simp only [St.rel,dO.2 hn,hb,cond_false]
theorem Mod.rel (h:Mod n V0 aW β0 st β a w V){L:List Nat}{β':Nat->Nat}(hβ:∀s∈L,β' s=β s):Mod n V0 aW β0 (st.rel L β' (C.den β)) β a w V where
 defers:=h.defers
 size:=h.size
 ao:=by
  intro t x hx
  obtain ⟨y,hy,rfl⟩:=vd hx
  rw [h.ao t y hy,(SV.fq hβ y).1]
 sW:=by
  intro t x hx s hs
  obtain ⟨y,hy,rfl⟩:=vd hx
  obtain ⟨h1,h2⟩:=(SV.fq hβ y).2 s hs
  exact dJ (h.sW t y hy s h1) h2
 sU:=by
  intro t b hb s hs
  obtain ⟨-,y,hy,rfl⟩:=d_ hb
  obtain ⟨h1,h2⟩:=(aG.fq hβ y).2 s hs
  exact dJ (h.sU t y hy s h1) h2
 boxes:=by
  intro t b hb l
  obtain ⟨-,y,hy,rfl⟩:=d_ hb
  rw [h.boxes t y hy (aG.dJ l),(aG.fq hβ y).1]
 inj:=by
  intro t t' b b' hb l hb' l' he
  obtain ⟨-,y,hy,rfl⟩:=d_ hb
  obtain ⟨-,y',hy',rfl⟩:=d_ hb'
  exact h.inj t t' y y' hy (aG.dJ l) hy' (aG.dJ l') he
 lh:=h.lh
 pt:=by
  intro t b hb l
  obtain ⟨-,y,hy,rfl⟩:=d_ hb
  exact h.pt t y hy (aG.dJ l)
 ext:=h.ext
 own:=by
  intro t b hb l
  obtain ⟨-,y,hy,rfl⟩:=d_ hb
  exact h.own t y hy (aG.dJ l)
 ja:=h.ja
 il:=h.il
 small:=h.small
theorem Mod.fL (h:Mod n V0 aW β0 st β a w V){d g:Nat}{b:aG}(hd:d<n\/200000<=d)(hn:st.boxes d=none)(eh:b.cs.ids=[])
  (hg:∀s b',st.boxes s=some b'->b'.live->β s≠g)(hV:∀o,¬V.a_ g o)(hown:V0.w.heap.size<=g\/(100000<=d/\aW.B g)){w':World}
  (hw:w'.heap[g]?=some (b.obj β))(hk:∀i,i<w.heap.size->i≠g->w'.heap[i]?=w.heap[i]?)(hsz:w.heap.size<=w'.heap.size)(hos:w'.os=w.os)(ht:w'.tape=w.tape)(hout:w'.output=w.output) :
  Mod n V0 aW β0 (st.box d b) (cL β d g) a w' V:=by
 have hne:∀s b',st.boxes s=some b'->s≠d:=fun s b' hs e=>by rw [e,hn] at hs;cases hs
 have hβ:∀s b',st.boxes s=some b'->cL β d g s=β s:=fun s b' hs=>eQ _ _ (hne s b' hs)
 have hlt:∀s b',st.boxes s=some b'->b'.live->β s<w.heap.size:=fun s b' hs l=>ar (h.boxes s b' hs l)
 have QP:∀b' o,V.a_ b' o->b'<w.heap.size:=fun b' o hb=>ar (h.lh b' o hb).1
 refine ⟨h.defers,h.size,?_,?_,?_,?_,?_,?_,?_,?_,?_,?_,h.il,h.small⟩
 ·intro t x hx
  rw [h.ao t x hx]
  exact SV.bg fun s hs=>by obtain ⟨b',hb'⟩:=h.sW t x hx s hs;exact (hβ s b' hb').symm
 ·intro t x hx s hs
  obtain ⟨b',hb'⟩:=h.sW t x hx s hs
  exact ⟨b',by rw [ah,if_neg (hne s b' hb')];exact hb'⟩
 ·intro s b' hs s' hs'
  rw [ah] at hs
  split at hs
  ·simp only [Option.some.injEq] at hs;rw [←hs,eh] at hs';cases hs'
  ·obtain ⟨b'',iL⟩:=h.sU s b' hs s' hs'
   exact ⟨b'',by rw [ah,if_neg (hne s' b'' iL)];exact iL⟩
 ·intro s b' hs l
  rw [ah] at hs
  split at hs
  ·rename_i e
   simp only [Option.some.injEq] at hs
   rw [e,aI,hw,←hs]
   congr 1
   exact aG.bX fun s' hs'=>by rw [eh] at hs';cases hs'
  ·rw [hβ s b' hs,hk _ (hlt s b' hs l) (hg s b' hs l),h.boxes s b' hs l]
   congr 1
   exact aG.bX fun s' hs'=>by obtain ⟨b'',iL⟩:=h.sU s b' hs s' hs';exact (hβ s' b'' iL).symm
 ·intro s s' b1 b2 h1 l1 h2 l2 he
  rw [ah] at h1 h2
  split at h1<;>split at h2
  ·rename_i e1 e2;rw [e1,e2]
  ·rename_i e1 e2;rw [e1,aI,hβ s' b2 h2] at he;exact absurd he.symm (hg s' b2 h2 l2)
  ·rename_i e1 e2;rw [e2,aI,hβ s b1 h1] at he;exact absurd he (hg s b1 h1 l1)
  ·rw [hβ s b1 h1,hβ s' b2 h2] at he;exact h.inj s s' b1 b2 h1 l1 h2 l2 he
 ·intro b' o hb
  obtain ⟨h1,h2⟩:=h.lh b' o hb
  refine ⟨?_,h2⟩
  rw [hk _ (QP b' o hb) (fun e=>hV o (e▸hb))]
  exact h1
 ·intro s b' hs l o ho'
  rw [ah] at hs
  split at hs
  ·rename_i e;rw [e,aI] at ho';exact hV o ho'
  ·rw [hβ s b' hs] at ho';exact h.pt s b' hs l o ho'
 ·refine ⟨Nat.le_trans h.ext.size hsz,fun i hi hX=>?_,hos.trans h.ext.os,ht.trans h.ext.tape,hout.trans h.ext.out⟩
  rw [hk i (Nat.lt_of_lt_of_le hi h.ext.size) (fun e=>by
   rcases hown with h1|h1
   ·omega
   ·exact hX (e▸h.il _ h1.2))]
  exact h.ext.a_ i hi hX
 ·intro s b' hs l
  rw [ah] at hs
  split at hs
  ·rename_i e;rw [e,aI];exact hown
  ·rw [hβ s b' hs];exact h.own s b' hs l
 ·intro s hs
  obtain ⟨h1,h2⟩:=h.ja s hs
  exact ⟨h1,by rw [eQ _ _ (by have:=h.small;omega)];exact h2⟩
theorem uo {t t' e e':TypeId}{ty:TypeId}(ht:P.underlying t=some (.slice e))(pW:P.underlying t'=some (.slice e'))(b xa:OA)(m c k xc:Nat) :
  (Builtin.append_ #[t,t'] ty #[.slice b m c,.slice xa k xc]).run P w=(Builtin.append_ #[t,t] ty #[.slice b m c,.slice xa k xc]).run P w:=by
 simp [Builtin.append_,ag ht,ag pW]
theorem qm {t e:TypeId}{ty:TypeId}{info:TypeInfo}(ht:P.underlying t=some (.slice e))(hi:P.info? e=some info)(base:OA)(m c c':Nat)(hc:m<=c) :
  (Builtin.append_ #[t,t] ty #[.slice base m c,.slice none 0 c']).run P w=.ok (.slice base m c) w:=by
 cases base<;>simp [Builtin.append_,ag ht,aC hi,Builtin.lenOf,Builtin.firstCells,storeCells,hc]
theorem jT (hM:Mod n V0 aW β0 st β a w V){s:Nat}{vs:List Value}{ty:TypeId}(h:di st.boxes s=some vs)(ht:iG st.boxes s=some ty):w.heap[β s]?=some (.cells vs.toArray ty (0,0))/\∃b,st.boxes s=some b/\b.live:=by
 unfold di at h
 unfold iG at ht
 split at h
 ·rename_i cs ty' hb
  rw [hb] at ht
  simp only [Option.some.injEq] at ht;subst ht
  have:=hM.row hb bY
  simp only [Cells.den,(eg (β:=β) h).1] at this
  exact ⟨this,_,hb,bY⟩
 ·rename_i ws ty' hb
  rw [hb] at ht
  simp only [Option.some.injEq,Option.some.injEq] at ht h;subst ht;subst h
  exact ⟨hM.row hb bM,_,hb,bM⟩
 ·cases h
theorem zZ {bx:Nat->Option aG}{s:Nat}{vs:List Value}(h:di bx s=some vs):∃ty,iG bx s=some ty:=by
 unfold di at h
 unfold iG
 split at h
 ·rename_i hb;rw [hb];exact ⟨_,rfl⟩
 ·rename_i hb;rw [hb];exact ⟨_,rfl⟩
 ·cases h
theorem rX (hM:Mod n V0 aW β0 st β a w V){ad:Addr}{xs:List Value}(h:V.sl (some ad) xs):∀j v,xs[j]?=some v->w.cell? (ad.add j)=some v:=by
 intro j v hj
 obtain ⟨ad',e,hat⟩:=h j v hj
 simp only [Option.some.injEq] at e
 subst e
 exact hM.LO hat
def Src (w:World)(xa:OA)(k size:Nat)(xs:List Value):Prop:=
 xs.length=k*size/\(∀v∈xs,v.oneCell'=true)/\((∃ad,xa=some ad/\∀j v,xs[j]?=some v->w.cell? (ad.add j)=some v)\/xa=none/\k=0)
theorem Du {t e ty:TypeId}{info:TypeInfo}(ht:P.underlying t=some (.slice e))(hi:P.info? e=some info){g m c k xc:Nat}{vs xs:List Value}{xa:OA}
  (hg:w.heap[g]?=some (.cells vs.toArray e (0,0)))(hx:Src w xa k info.size xs)(hc:m+k<=c)(hv:c*info.size<=vs.length) :
  ∃w',(Builtin.append_ #[t,t] ty #[.slice (some ⟨g,0,none⟩) m c,.slice xa k xc]).run P w=.ok (.slice (some ⟨g,0,none⟩) (m+k) c) w' /\
   w'.heap=w.heap.setIfInBounds g (.cells (vs.take (m*info.size)++xs++vs.drop (m*info.size+xs.length)).toArray e (0,0))/\w'.os=w.os/\w'.tape=w.tape/\w'.output=w.output:=by
 obtain ⟨hl,h1,hx⟩:=hx
 rcases hx with ⟨ad,rfl,hcells⟩|⟨rfl,rfl⟩
 ·have hfit:m*info.size+xs.length<=vs.length:=by
   rw [hl,←Nat.add_mul]
   exact Nat.le_trans (Nat.mul_le_mul_right _ hc) hv
  have hr:=run_append_room (P:=P) w t ty e info ht hi g m c vs.toArray hg ad k xc xs hl hcells h1 hc (by simpa using hfit)
  exact ⟨_,hr,by rw [dg hg],rfl,rfl,rfl⟩
 ·have hx0:xs=[]:=List.length_eq_zero_iff.1 (by simpa using hl)
  subst hx0
  refine ⟨w,?_,?_,rfl,rfl,rfl⟩
  ·simpa using qm (P:=P) (w:=w) (ty:=ty) ht hi (some ⟨g,0,none⟩) m c xc (by omega)
  ·simp only [List.append_nil,List.length_nil,Nat.add_zero,List.take_append_drop]
   apply Array.ext_getElem?
   intro i
   rw [Array.getElem?_setIfInBounds]
   split
   ·rename_i e;rw [←e,if_pos (ar hg)];exact hg
   ·rfl
theorem uk {t e ty:TypeId}{info:TypeInfo}{z:Value}(ht:P.underlying t=some (.slice e))(hi:P.info? e=some info)(hz:info.zero=some z)(hzs:z.cells.size=info.size)
  {m c k xc:Nat}{olds xs:List Value}{base xa:OA}
  (hbase:(∃b,base=some b/\olds.length=m*info.size/\∀j v,olds[j]?=some v->w.cell? (b.add j)=some v)\/base=none/\m=0/\c=0/\olds=[])
  (hx:Src w xa k info.size xs)(hc:c<m+k)(hb:(m+k)*info.bytes<=140737488355328)(hb0:info.bytes≠0)(hmc:m<=c) :
  ∃(c':Nat)(rest:List Value)(w':World),m+k<=c'/\(m+k)*info.size+rest.length=c'*info.size/\w'.heap=w.heap/\w'.os=w.os/\w'.tape=w.tape/\w'.output=w.output /\
   (Builtin.append_ #[t,t] ty #[.slice base m c,.slice xa k xc]).run P w=.ok (.slice (some ⟨w.heap.size,0,none⟩) (m+k) c') (w'.alloc (.cells (olds++xs++rest).toArray e)):=by
 obtain ⟨hl,h1,hx⟩:=hx
 have h63:(m+k:Nat)<=140737488355328:=by
  have:(m+k)*1<=(m+k)*info.bytes:=Nat.mul_le_mul_left _ (by omega)
  omega
 have hrest:∀N,(m+k)<=N->(m+k)*info.size+(Builtin.zeroCells z.cells (N-(m+k))).toList.length=N*info.size:=by
  intro N hN
  rw [Array.length_toList,size_zeroCells,hzs,←Nat.add_mul]
  congr 1;omega
 rcases hx with ⟨ad,rfl,hcells⟩|⟨rfl,rfl⟩
 ·rcases hbase with ⟨b,rfl,ho,hold⟩|⟨rfl,rfl,rfl,rfl⟩
  ·have hr:=run_append_grow (P:=P) w t ty e info z ht hi hz b m c olds ho hold ad k xc xs hl hcells hc (by omega) (growslice_fits hc hb)
   refine ⟨_,(Builtin.zeroCells z.cells (grownCap w (m+k) c e-(m+k))).toList,w.drew,grownCap_ge w (m+k) c e,hrest _ (grownCap_ge w (m+k) c e),rfl,rfl,rfl,rfl,?_⟩
   rw [hr]
   congr 3
   apply Array.ext'
   simp
  ·simp only [Nat.zero_add] at hc hb h63 hrest ⊢
   have hr:=run_append_nil (P:=P) w t ty e info z ht hi hz ad k xc xs hl hcells (by omega) (by omega) (by omega)
   refine ⟨_,(Builtin.zeroCells z.cells (grownCap w k 0 e-k)).toList,w.drew,grownCap_ge w k 0 e,hrest _ (grownCap_ge w k 0 e),rfl,rfl,rfl,rfl,?_⟩
   rw [hr]
   congr 3
   apply Array.ext'
   simp
 ·omega
theorem v_ {s d n:Nat}(hd:d<n):kP s d<n\/200000<=kP s d:=by
 unfold kP
 cases Nat.blt s 100000 with
 | true=>exact .inl hd
 | false=>exact .inr (by rw [cond_false];exact Nat.le_add_left _ _)
theorem BP {s d:Nat}(hs:100000<=s):100000<=kP s d:=by
 unfold kP
 have:Nat.blt s 100000=false:=by
  cases h:Nat.blt s 100000 with
  | false=>rfl
  | true=>have:=Nat.le_of_ble_eq_true h;omega
 rw [this,cond_false]
 omega
theorem xy (hM:Mod n V0 aW β0 st β a w V){d:Nat}(hd:d<n){t e ty:TypeId}{info:TypeInfo}{z:Value}
  (ht:P.underlying t=some (.slice e))(hi:P.info? e=some info)(hz:info.zero=some z)(hzs:z.cells.size=info.size)(hb0:info.bytes≠0)
  {s:Nat}{vs xs:List Value}{m c k xc:Nat}{base xa:OA}
  (hbase:(base=some ⟨β s,0,none⟩/\w.heap[β s]?=some (.cells vs.toArray e (0,0))/\∃b,st.boxes s=some b/\b.live)\/(base=none/\m=0/\c=0/\k≠0))
  (hx:Src w xa k info.size xs)(hb:(m+k)*info.bytes<=140737488355328)(hmc:m<=c)(hcv:c*info.size<=vs.length)(hxl:xs.length=k*info.size)(hnb:st.boxes (kP s d)=none) :
  ∃(spare:List Value)(c' g:Nat)(w':World),m+k<=c'/\c'*info.size<=(m+k)*info.size+spare.length/\((c≠0\/k≠0)->c'≠0) /\
   (Builtin.append_ #[t,t] ty #[.slice base m c,.slice xa k xc]).run P w=.ok (.slice (some ⟨g,0,none⟩) (m+k) c') w' /\
   ∀bx:aG,(bx=⟨.row (vs.take (m*info.size)++xs++spare),e⟩\/bx=⟨.aN (vs.take (m*info.size)++xs++spare),e⟩) ->
    Mod n V0 aW β0 ((st.box s ⟨.aN [],e⟩).box (kP s d) bx) (cL β (kP s d) g) a w' V:=by
 have hM1:Mod n V0 aW β0 (st.box s ⟨.aN [],e⟩) β a w V:=hM.void
 have hbx:∀bx:aG,∀l:List Value,(bx=⟨.row l,e⟩\/bx=⟨.aN l,e⟩)->bx.cs.ids=[]/\bx.obj β=.cells l.toArray e (0,0):=by
  rintro bx l (rfl|rfl)<;>exact ⟨rfl,rfl⟩
 have J8:∀t b,(st.box s ⟨.aN [],e⟩).boxes t=some b->b.live->st.boxes t=some b/\t≠s:=by
  intro t b hb l
  rw [ah] at hb
  split at hb
  ·cases hb;exact absurd l dH
  ·rename_i h;exact ⟨hb,h⟩
 have hnone:(∃b,st.boxes s=some b/\b.live)\/True->(s≠kP s d\/st.boxes s=none)->(st.box s ⟨.aN [],e⟩).boxes (kP s d)=none\/s=kP s d:=by
  intro _ _
  by_cases h:s=kP s d
  ·exact .inr h
  ·left;rw [ah,if_neg (Ne.symm h)];exact hnb
 have grows:c<m+k->((∃b,base=some b/\(vs.take (m*info.size)).length=m*info.size/\∀j v,(vs.take (m*info.size))[j]?=some v->w.cell? (b.add j)=some v)\/base=none/\m=0/\c=0/\vs.take (m*info.size)=[]) ->
   (s=kP s d->st.boxes s=none) ->
   ∃(spare:List Value)(c' g:Nat)(w':World),m+k<=c'/\c'*info.size<=(m+k)*info.size+spare.length/\((c≠0\/k≠0)->c'≠0) /\
   (Builtin.append_ #[t,t] ty #[.slice base m c,.slice xa k xc]).run P w=.ok (.slice (some ⟨g,0,none⟩) (m+k) c') w' /\
   ∀bx:aG,(bx=⟨.row (vs.take (m*info.size)++xs++spare),e⟩\/bx=⟨.aN (vs.take (m*info.size)++xs++spare),e⟩) ->
    Mod n V0 aW β0 ((st.box s ⟨.aN [],e⟩).box (kP s d) bx) (cL β (kP s d) g) a w' V:=by
  intro hc hold hsame
  obtain ⟨c',rest,w',h1,h2,hh,ho,htp,hou,hr⟩:=uk (ty:=ty) (xc:=xc) ht hi hz hzs hold hx hc hb hb0 hmc
  refine ⟨rest,c',w.heap.size,_,h1,by rw [←h2];exact Nat.le_refl _,by omega,hr,?_⟩
  intro bx hb'
  obtain ⟨k1,k2⟩:=hbx bx _ hb'
  have hsz:w'.heap.size=w.heap.size:=by rw [hh]
  by_cases hs:s=kP s d
  ·
   have e1:(st.box s ⟨.aN [],e⟩).box (kP s d) bx=st.box (kP s d) bx:=by
    rw [←hs]
    simp only [St.box]
    congr 1
    funext t
    cases Nat.beq t s<;>rfl
   rw [e1]
   refine hM.fL (v_ hd) hnb k1 ?_ ?_ (.inl hM.ext.size) ?_ ?_ ?_ ho htp hou
   ·intro t' b' hb' l he
    have:=ar (hM.boxes t' b' hb' l)
    omega
   ·intro o hb';have:=ar (hM.lh _ o hb').1;omega
   ·rw [k2,←hsz];exact heap_alloc_new _ _
   ·intro i hi' _;rw [bD _ _ (by omega),hh]
   ·simp [hsz]
  ·refine hM1.fL (v_ hd) (by rw [ah,if_neg (Ne.symm hs)];exact hnb) k1 ?_ ?_ (.inl hM.ext.size) ?_ ?_ ?_ ho htp hou
   ·intro t' b' hb' l he
    have:=ar (hM1.boxes t' b' hb' l)
    omega
   ·intro o hb';have:=ar (hM.lh _ o hb').1;omega
   ·rw [k2,←hsz];exact heap_alloc_new _ _
   ·intro i hi' _;rw [bD _ _ (by omega),hh]
   ·simp [hsz]
 rcases hbase with ⟨rfl,hg,bs,hbs,MT⟩|⟨rfl,rfl,rfl,hk0⟩
 ·have JO:s≠kP s d:=fun e=>by rw [←e,hbs] at hnb;cases hnb
  by_cases hc:m+k<=c
  ·obtain ⟨w',hr,hh,ho,htp,hou⟩:=Du (ty:=ty) (xc:=xc) ht hi hg hx hc hcv
   have hfit:m*info.size+xs.length<=vs.length:=by
    rw [hxl,←Nat.add_mul]
    exact Nat.le_trans (Nat.mul_le_mul_right _ hc) hcv
   have hlt:=ar hg
   refine ⟨vs.drop (m*info.size+xs.length),c,β s,w',hc,by rw [List.length_drop,hxl,Nat.add_mul];omega,by omega,hr,?_⟩
   intro bx hb'
   obtain ⟨k1,k2⟩:=hbx bx _ hb'
   refine hM1.fL (v_ hd) (by rw [ah,if_neg (Ne.symm JO)];exact hnb) k1 ?_ (hM.pt s bs hbs MT) ?_ ?_ ?_ (by rw [hh];simp) ho htp hou
   ·intro t' b' hb' l he
    obtain ⟨h1,h2⟩:=J8 t' b' hb' l
    exact h2 (hM.inj t' s b' bs h1 l hbs MT he)
   ·rcases hM.own s bs hbs MT with h1|h1
    ·exact .inl h1
    ·exact .inr ⟨BP h1.1,h1.2⟩
   ·rw [hh,Array.getElem?_setIfInBounds,if_pos rfl,if_pos hlt,k2]
   ·intro i _ hne;rw [hh,Array.getElem?_setIfInBounds,if_neg (Ne.symm hne)]
  ·refine grows (by omega) (.inl ⟨⟨β s,0,none⟩,rfl,?_,?_⟩) (fun e=>absurd e JO)
   ·rw [List.length_take,Nat.min_eq_left]
    exact Nat.le_trans (Nat.mul_le_mul_right _ hmc) hcv
   ·intro j v hj
    rw [dF,cell_of_row hg]
    rw [List.getElem?_take] at hj
    split at hj
    ·simpa using hj
    ·cases hj
 ·refine grows (by omega) (.inr ⟨rfl,rfl,rfl,by simp⟩) (fun e=>by rw [e];exact hnb)
theorem qn (hM:Mod n V0 aW β0 st β a w V){K:St->View->Prop}{d:Nat}(hd:d<n){t e ty:TypeId}{info:TypeInfo}{z:Value}
  (ht:P.underlying t=some (.slice e))(hi:P.info? e=some info)(hz:info.zero=some z)(hzs:z.cells.size=info.size)(hb0:info.bytes≠0)
  {s:Nat}{vs xs:List Value}{m c k xc:Nat}{xa:OA}(hg:w.heap[β s]?=some (.cells vs.toArray e (0,0)))(hbb:∃b,st.boxes s=some b/\b.live)
  (hx:Src w xa k info.size xs)(h:xr s vs m c info.size info.bytes e d st V K k xs) :
  ∃v w' st' β',(Builtin.append_ #[t,t] ty #[.slice (some ⟨β s,0,none⟩) m c,.slice xa k xc]).run P w=.ok v w'/\Mod n V0 aW β0 st' β' (a.put (some d) v) w' V/\K st' V:=by
 obtain ⟨hb,hmc,hcv,hxl,hx1,h⟩:=h
 split at h
 ·exact h.elim
 ·rename_i hnb
  obtain ⟨spare,c',g,w',h1,h2,-,hr,Jx⟩:=xy (ty:=ty) (xc:=xc) hM hd ht hi hz hzs hb0 (.inl ⟨rfl,hg,hbb⟩) hx hb hmc hcv hxl hnb
  refine ⟨_,w',_,_,hr,(Jx _ (.inl rfl)).put (x:=.c (.jQ (kP s d) 0 (m+k) c')) hd ?_ ?_,h 0 (fun _=>.bool true) spare c' h1 h2⟩
  ·simp [SV.den,C.den,aI]
  ·intro s' hs'
   simp [SV.ids,C.ids] at hs'
   subst hs'
   exact ⟨_,by rw [ah,if_pos rfl]⟩
theorem rA (hM:Mod n V0 aW β0 st β a w V){K:St->View->Prop}{d:Nat}(hd:d<n){t e ty:TypeId}{info:TypeInfo}{z:Value}
  (ht:P.underlying t=some (.slice e))(hi:P.info? e=some info)(hz:info.zero=some z)(hzs:z.cells.size=info.size)(hb0:info.bytes≠0)(hs0:info.size≠0)
  {s:Nat}{vs xs:List Value}{m c k xc:Nat}{xa:OA}(hbb:st.boxes s=some ⟨.aN vs,e⟩)
  (hx:Src w xa k info.size xs)(h:oP s vs m c info.size info.bytes e d st V K k xs) :
  ∃v w' st' β',(Builtin.append_ #[t,t] ty #[.slice (mA (β s) c) m c,.slice xa k xc]).run P w=.ok v w'/\Mod n V0 aW β0 st' β' (a.put (some d) v) w' V/\K st' V:=by
 obtain ⟨hb,hmc,hcv,hxl,hx1,h⟩:=h
 split at h
 ·exact h.elim
 ·rename_i hnb
  have fin:((mA (β s) c=some ⟨β s,0,none⟩/\w.heap[β s]?=some (.cells vs.toArray e (0,0))/\∃b,st.boxes s=some b/\b.live)\/(mA (β s) c=none/\m=0/\c=0/\k≠0))->(c≠0\/k≠0) ->
    ∃v w' st' β',(Builtin.append_ #[t,t] ty #[.slice (mA (β s) c) m c,.slice xa k xc]).run P w=.ok v w'/\Mod n V0 aW β0 st' β' (a.put (some d) v) w' V/\K st' V:=by
   intro hbase hne
   obtain ⟨spare,c',g,w',h1,h2,h3,hr,Jx⟩:=xy (ty:=ty) (xc:=xc) hM hd ht hi hz hzs hb0 hbase hx hb hmc hcv hxl hnb
   refine ⟨_,w',_,_,hr,(Jx _ (.inr rfl)).put (x:=.c (.ia (kP s d) (m+k) c')) hd ?_ ?_,h spare c' h1 h2⟩
   ·simp [SV.den,C.den,aI,mA,h3 hne]
   ·intro s' hs'
    simp [SV.ids,C.ids] at hs'
    subst hs'
    exact ⟨_,by rw [ah,if_pos rfl]⟩
  by_cases hc:c=0
  ·have hm:m=0:=by omega
   by_cases hk:k=0
   ·
    subst hc hm hk
    have hK:=h [] 0 (by omega) (by simp)
    have hx0:xs=[]:=List.length_eq_zero_iff.1 (by simpa using hxl)
    subst hx0
    have e1:vs.take (0*info.size)++[]++[]=([]:List Value):=by simp
    rw [e1] at hK
    have hM2:Mod n V0 aW β0 ((st.box s ⟨.aN [],e⟩).box (kP s d) ⟨.aN [],e⟩) β a w V:=hM.void.void
    refine ⟨.slice none 0 0,w,_,_,?_,hM2.put (x:=.c (.ia (kP s d) 0 0)) hd ?_ ?_,hK⟩
    ·have e2:mA (β s) 0=none:=rfl
     rw [e2]
     cases xa with
     | none=>exact qm ht hi none 0 0 xc (by omega)
     | some ad=>simp [Builtin.append_,ag ht,aC hi,Builtin.lenOf,Builtin.firstCells,loadCells,loadCellsFrom]
    ·simp [SV.den,C.den,mA]
    ·intro s' hs'
     simp [SV.ids,C.ids] at hs'
     subst hs'
     exact ⟨_,by rw [ah,if_pos rfl]⟩
   ·exact fin (.inr ⟨by rw [hc];rfl,hm,hc,hk⟩) (.inr hk)
  ·have hlv:aG.live ⟨.aN vs,e⟩:=du fun e'=>by
    subst e'
    have h0:c*info.size=0:=by simpa using hcv
    rcases Nat.mul_eq_zero.1 h0 with h0|h0
    ·exact hc h0
    ·exact hs0 h0
   exact fin (.inl ⟨by simp [mA,hc],hM.row hbb hlv,_,hbb,hlv⟩) (.inl hc)
theorem qo (hM:Mod n V0 aW β0 st β a w V){K:St->View->Prop}{d:Nat}(hd:d<n){t e ty:TypeId}{info:TypeInfo}{z:Value}
  (ht:P.underlying t=some (.slice e))(hi:P.info? e=some info)(hz:info.zero=some z)(hzs:z.cells.size=info.size)(hb0:info.bytes≠0)
  {vs xs:List Value}{m c k xc:Nat}{xa ba:OA}(hsl:V.sl ba vs)(hvl:vs.length=m*info.size)(hmc:m<=c)(hn0:ba.isNone=true->c=0)(hs0:info.size≠0)
  (hx:Src w xa k info.size xs)(h:xu vs m c info.size info.bytes e d st V K k xs) :
  ∃v w' st' β',(Builtin.append_ #[t,t] ty #[.slice ba m c,.slice xa k xc]).run P w=.ok v w'/\Mod n V0 aW β0 st' β' (a.put (some d) v) w' V/\K st' V:=by
 obtain ⟨hb,hlt,hxl,hx1,h⟩:=h
 have hbase:(∃b,ba=some b/\vs.length=m*info.size/\∀j v,vs[j]?=some v->w.cell? (b.add j)=some v)\/ba=none/\m=0/\c=0/\vs=[]:=by
  cases ba with
  | some b=>exact .inl ⟨b,rfl,hvl,rX hM hsl⟩
  | none=>
   have hc:=hn0 rfl
   have hm:m=0:=by omega
   subst hm
   exact .inr ⟨rfl,rfl,hc,List.length_eq_zero_iff.1 (by simpa using hvl)⟩
 obtain ⟨c',rest,w',h1,h2,hh,ho,htp,hou,hr⟩:=uk (ty:=ty) (xc:=xc) (base:=ba) (olds:=vs) ht hi hz hzs hbase hx hlt hb hb0 hmc
 split at h
 ·exact h.elim
 ·rename_i hn
  have hK:=h rest c' h1 (by rw [←h2];exact Nat.le_refl _)
  have hsz:w'.heap.size=w.heap.size:=by rw [hh]
  have QL:=Mod.fL hM (d:=d) (g:=w.heap.size) (b:=⟨.row (vs++xs++rest),e⟩) (w':=w'.alloc (.cells (vs++xs++rest).toArray e)) (.inl hd) hn rfl
   (by
    intro t' b' hb' l he
    have:=ar (hM.boxes t' b' hb' l)
    omega)
   (by intro o hb';have:=ar (hM.lh _ o hb').1;omega) (.inl hM.ext.size)
   (by rw [←hsz];exact heap_alloc_new _ _)
   (by intro i hi' _;rw [bD _ _ (by omega),hh])
   (by simp [hsz]) ho htp hou
  refine ⟨_,_,_,_,hr,QL.put (x:=.c (.jQ d 0 (m+k) c')) hd ?_ ?_,hK⟩
  ·simp [SV.den,C.den,aI]
  ·intro s' hs'
   simp [SV.ids,C.ids] at hs'
   subst hs'
   exact ⟨_,by rw [ah,if_pos rfl]⟩
end Go.Eng
namespace Go.Eng
variable {P:Program} {T:ck} {n:Nat} {V0:View} {aW:zS} {β0:Nat->Nat} {st:St} {β:Nat->Nat} {a:Act} {w:World} {V:View}
theorem oT (ws:List Value)(o n:Nat):(rowTake ws o n).length=n:=by
 unfold rowTake
 cases h:Nat.ble (o+n) ws.length with
 | true=>
  have:=Nat.le_of_ble_eq_true h
  simp only [cond_true]
  rw [List.length_take,List.length_drop];omega
 | false=>simp
theorem oS {ws:List Value}{o n:Nat}(h1:∀v∈rowTake ws o n,v.oneCell'=true){j:Nat}{v:Value}(hj:(rowTake ws o n)[j]?=some v):ws[o+j]?=some v:=by
 unfold rowTake at h1 hj
 cases h:Nat.ble (o+n) ws.length with
 | true=>
  rw [h] at hj
  simp only [cond_true] at hj
  rw [List.getElem?_take] at hj
  split at hj
  ·simpa using hj
  ·cases hj
 | false=>
  rw [h] at hj h1
  simp only [cond_false] at hj h1
  have hm:=List.mem_of_getElem? hj
  have:=h1 v hm
  rw [List.eq_of_mem_replicate hm] at this
  cases this
theorem B5 (hM:Mod n V0 aW β0 st β a w V){ei:TI}{info:TypeInfo}(e5:ei.size=info.size){s o k xc:Nat}{src:OA×Nat ⊕ List Value}
  (hsrc:(match st.boxes s with
    | some ⟨.row ws,_⟩=>some (.inr (rowTake ws o (k*ei.size)))
    | _=>match di st.boxes s with
     | some ws=>if Nat.ble (o+k*ei.size) ws.length then some (.inr ((ws.drop o).take (k*ei.size))) else none
     | none=>none)=some src) :
  ∃xa k' Gz,(SV.c (.jQ s o k xc)).den β=.slice xa k' Gz/\((src=.inl (xa,k'))\/∃xs,src=.inr xs/\xs.length=k'*info.size/\∃ad,xa=some ad/\((∀v∈xs,v.oneCell'=true)->∀j v,xs[j]?=some v->w.cell? (ad.add j)=some v)):=by
 split at hsrc
 ·rename_i ws ty hbx
  simp only [Option.some.injEq] at hsrc
  subst hsrc
  have hws:di st.boxes s=some ws:=by unfold di;rw [hbx]
  have htx:iG st.boxes s=some ty:=by unfold iG;rw [hbx]
  obtain ⟨k1,-⟩:=jT hM hws htx
  refine ⟨_,k,xc,rfl,.inr ⟨_,rfl,?_,⟨β s,o,none⟩,rfl,?_⟩⟩
  ·rw [oT,←e5]
  ·intro h1 j v hj
   rw [dF,cell_of_row k1]
   exact oS h1 hj
 ·split at hsrc
  ·rename_i ws hws
   split at hsrc
   ·rename_i hle
    have hle:=Nat.le_of_ble_eq_true hle
    simp only [Option.some.injEq] at hsrc
    subst hsrc
    obtain ⟨tx,htx⟩:=zZ hws
    obtain ⟨k1,-⟩:=jT hM hws htx
    refine ⟨_,k,xc,rfl,.inr ⟨_,rfl,?_,⟨β s,o,none⟩,rfl,?_⟩⟩
    ·rw [List.length_take,List.length_drop,←e5];omega
    ·intro _ j v hj
     rw [dF,cell_of_row k1]
     rw [List.getElem?_take] at hj
     split at hj
     ·simpa using hj
     ·cases hj
   ·cases hsrc
  ·cases hsrc
theorem zf {xv:Value}{src:OA×Nat ⊕ List Value}{sz:Nat}(h:∃xa k' Gz,xv=.slice xa k' Gz/\((src=.inl (xa,k'))\/∃xs,src=.inr xs/\xs.length=k'*sz/\∃ad,xa=some ad/\((∀v∈xs,v.oneCell'=true)->∀j v,xs[j]?=some v->w.cell? (ad.add j)=some v))) :
  ∃xa k xc,xv=.slice xa k xc/\((src=.inl (xa,k))\/∃xs,src=.inr xs/\xs.length=k*sz/\((∀v∈xs,v.oneCell'=true)->(∃ad,xa=some ad/\∀j v,xs[j]?=some v->w.cell? (ad.add j)=some v)\/(xa=none/\k=0))):=by
 obtain ⟨xa,k,xc,e,h⟩:=h
 refine ⟨xa,k,xc,e,h.imp id ?_⟩
 rintro ⟨xs,e1,e2,ad,e3,e4⟩
 exact ⟨xs,e1,e2,fun h1=>.inl ⟨ad,e3,e4 h1⟩⟩
theorem ze (hM:Mod n V0 aW β0 st β a w V){ei:TI}{info:TypeInfo}(e5:ei.size=info.size)(hz:¬ei.size=0){s k xc:Nat}{src:OA×Nat ⊕ List Value}
  (hsrc:(match st.boxes s with
    | some ⟨.aN ws,_⟩=>some (.inr (rowTakeM ws k xc ei.size))
    | _=>none)=some src) :
  ∃xa k' Gz,(SV.c (.ia s k xc)).den β=.slice xa k' Gz/\((src=.inl (xa,k'))\/∃xs,src=.inr xs/\xs.length=k'*info.size/\((∀v∈xs,v.oneCell'=true)->(∃ad,xa=some ad/\∀j v,xs[j]?=some v->w.cell? (ad.add j)=some v)\/(xa=none/\k'=0))):=by
 split at hsrc
 ·rename_i ws ty hbx
  simp only [Option.some.injEq] at hsrc
  subst hsrc
  refine ⟨_,k,xc,rfl,.inr ⟨_,rfl,?_,fun h1=>?_⟩⟩
  ·unfold rowTakeM
   cases Nat.ble k xc with
   | true=>rw [cond_true,oT,e5]
   | false=>rw [cond_false,List.length_replicate,e5]
  ·unfold rowTakeM at h1 ⊢
   by_cases hc:xc=0
   ·subst hc
    cases k with
    | zero=>exact .inr ⟨rfl,rfl⟩
    | succ k=>
     have hb:Nat.ble (k+1) 0=false:=rfl
     rw [hb,cond_false] at h1
     have:(Value.agg #[])∈List.replicate ((k+1)*ei.size) (Value.agg #[]):=List.mem_replicate.2 ⟨Nat.mul_ne_zero (by omega) hz,rfl⟩
     have:=h1 _ this
     cases this
   ·left
    obtain ⟨c',rfl⟩:∃c',xc=c'+1:=⟨xc-1,by omega⟩
    refine ⟨⟨β s,0,none⟩,rfl,fun j v hj=>?_⟩
    cases hb:Nat.ble k (c'+1) with
    | false=>
     rw [hb,cond_false] at h1 hj
     have hm:=List.mem_of_getElem? hj
     have:=h1 v hm
     rw [List.eq_of_mem_replicate hm] at this
     cases this
    | true=>
     rw [hb,cond_true] at h1 hj
     have hg:=oS h1 hj
     have hne:ws≠[]:=fun e=>by rw [e] at hg;simp at hg
     rw [dF,cell_of_row (hM.boxes s _ hbx (du hne))]
     exact hg
 ·cases hsrc
theorem wu (hM:Mod n V0 aW β0 st β a w V){e:TypeId}{ei:TI}{info:TypeInfo}{z:Value}(e5:ei.size=info.size)(e6:ei.bytes=info.bytes)(e7:ei.zero=z.cells.toList.map C.ofConst)
  {b x:SV}{old:Option Nat}{ba:OA}{vs:List Value}{m c:Nat}{src:OA×Nat ⊕ List Value}{size bytes:Nat}{ty:TypeId}
  (h:bJ st.boxes e ei b x=.app old ba vs m c src size bytes ty) :
  size=info.size/\bytes=info.bytes/\ty=e/\info.bytes≠0/\info.size≠0/\z.cells.size=info.size /\
  (∃base,b.den β=.slice base m c/\((∃s,old=some s/\base=some ⟨β s,0,none⟩/\w.heap[β s]?=some (.cells vs.toArray e (0,0))/\∃b,st.boxes s=some b/\b.live)\/old=none/\base=ba)) /\
  ∃xa k xc,x.den β=.slice xa k xc/\((src=.inl (xa,k))\/∃xs,src=.inr xs/\xs.length=k*info.size/\((∀v∈xs,v.oneCell'=true)->(∃ad,xa=some ad/\∀j v,xs[j]?=some v->w.cell? (ad.add j)=some v)\/(xa=none/\k=0))):=by
 unfold bJ at h
 split at h
 ·cases h
 ·rename_i zs hzs
  split at h
  ·cases h
  ·rename_i hcond
   simp only [Bool.or_eq_true,beq_eq,Bool.not_eq_eq_eq_not,not_or] at hcond
   obtain ⟨⟨g1,g2⟩,g3⟩:=hcond
   have g3:ei.size=zs.length:=by
    rcases hb:Nat.beq ei.size zs.length with _|_
    ·rw [hb] at g3;exact absurd rfl g3
    ·exact beq_eq.1 hb
   obtain ⟨z1,-⟩:=dh (β:=β) e7
   obtain ⟨d1,-⟩:=eg (β:=β) hzs
   have hzs':z.cells.size=info.size:=by rw [←z1,d1];simp [←g3,e5]
   dsimp only at h
   split at h
   ·cases h
   ·rename_i src' hsrc
    have hb:(src'=src/\ei.size=size/\ei.bytes=bytes/\e=ty)/\∃base,b.den β=.slice base m c/\((∃s,old=some s/\base=some ⟨β s,0,none⟩/\w.heap[β s]?=some (.cells vs.toArray e (0,0))/\∃b,st.boxes s=some b/\b.live)\/old=none/\base=ba):=by
     split at h
     ·simp only [Q.app.injEq] at h
      obtain ⟨rfl,rfl,rfl,rfl,rfl,rfl,rfl,rfl,rfl⟩:=h
      exact ⟨⟨rfl,rfl,rfl,rfl⟩,_,rfl,.inr ⟨rfl,rfl⟩⟩
     ·rename_i s n' c'
      split at h
      ·rename_i vs' ty' hv ht
       split at h
       ·rename_i he
        obtain rfl:=beq_eq.1 he
        simp only [Q.app.injEq] at h
        obtain ⟨rfl,rfl,rfl,rfl,rfl,rfl,rfl,rfl,rfl⟩:=h
        obtain ⟨k1,k2⟩:=jT hM hv ht
        exact ⟨⟨rfl,rfl,rfl,rfl⟩,_,rfl,.inl ⟨s,rfl,rfl,k1,k2⟩⟩
       ·cases h
      ·cases h
     ·split at h
      ·split at h<;>cases h
      ·cases h
     ·cases h
    obtain ⟨⟨rfl,rfl,rfl,rfl⟩,hb⟩:=hb
    refine ⟨e5,e6,rfl,by rw [←e6];exact g1,by rw [←e5];exact g2,hzs',hb,?_⟩
    split at hsrc
    ·rename_i xa k xc
     simp only [Option.some.injEq] at hsrc
     subst hsrc
     exact ⟨xa,k,xc,rfl,.inl rfl⟩
    ·rename_i s o k xc
     exact zf (B5 hM e5 hsrc)
    ·rename_i s k xc
     exact ze hM e5 g2 hsrc
    ·cases hsrc
theorem tA (hM:Mod n V0 aW β0 st β a w V){e:TypeId}{ei:TI}{info:TypeInfo}{z:Value}(e5:ei.size=info.size)(e6:ei.bytes=info.bytes)(e7:ei.zero=z.cells.toList.map C.ofConst)
  {b x:SV}{s:Nat}{vs:List Value}{m c:Nat}{src:OA×Nat ⊕ List Value}{size bytes:Nat}{ty:TypeId}
  (h:bJ st.boxes e ei b x=.nV s vs m c src size bytes ty) :
  size=info.size/\bytes=info.bytes/\ty=e/\info.bytes≠0/\info.size≠0/\z.cells.size=info.size /\
  (b.den β=.slice (mA (β s) c) m c/\st.boxes s=some ⟨.aN vs,e⟩) /\
  ∃xa k xc,x.den β=.slice xa k xc/\((src=.inl (xa,k))\/∃xs,src=.inr xs/\xs.length=k*info.size/\((∀v∈xs,v.oneCell'=true)->(∃ad,xa=some ad/\∀j v,xs[j]?=some v->w.cell? (ad.add j)=some v)\/(xa=none/\k=0))):=by
 unfold bJ at h
 split at h
 ·cases h
 ·rename_i zs hzs
  split at h
  ·cases h
  ·rename_i hcond
   simp only [Bool.or_eq_true,beq_eq,Bool.not_eq_eq_eq_not,not_or] at hcond
   obtain ⟨⟨g1,g2⟩,g3⟩:=hcond
   have g3:ei.size=zs.length:=by
    rcases hb:Nat.beq ei.size zs.length with _|_
    ·rw [hb] at g3;exact absurd rfl g3
    ·exact beq_eq.1 hb
   obtain ⟨z1,-⟩:=dh (β:=β) e7
   obtain ⟨d1,-⟩:=eg (β:=β) hzs
   have hzs':z.cells.size=info.size:=by rw [←z1,d1];simp [←g3,e5]
   dsimp only at h
   split at h
   ·cases h
   ·rename_i src' hsrc
    have hb:(src'=src/\ei.size=size/\ei.bytes=bytes/\e=ty)/\b.den β=.slice (mA (β s) c) m c/\st.boxes s=some ⟨.aN vs,e⟩:=by
     split at h
     ·cases h
     ·split at h
      ·split at h<;>cases h
      ·cases h
     ·rename_i s' n' c'
      split at h
      ·rename_i vs' ty' hv
       split at h
       ·rename_i he
        obtain rfl:=beq_eq.1 he
        simp only [Q.nV.injEq] at h
        obtain ⟨rfl,rfl,rfl,rfl,rfl,rfl,rfl,rfl⟩:=h
        exact ⟨⟨rfl,rfl,rfl,rfl⟩,rfl,hv⟩
       ·cases h
      ·cases h
     ·cases h
    obtain ⟨⟨rfl,rfl,rfl,rfl⟩,hb⟩:=hb
    refine ⟨e5,e6,rfl,by rw [←e6];exact g1,by rw [←e5];exact g2,hzs',hb,?_⟩
    split at hsrc
    ·rename_i xa k xc
     simp only [Option.some.injEq] at hsrc
     subst hsrc
     exact ⟨xa,k,xc,rfl,.inl rfl⟩
    ·rename_i s o k xc
     exact zf (B5 hM e5 hsrc)
    ·rename_i s k xc
     exact ze hM e5 g2 hsrc
    ·cases hsrc
theorem CU (hT:ck.ok P T)(hM:Mod n V0 aW β0 st β a w V){o:Oper}{K:St->View->Prop}{d:Nat}(hd:d<n){old:Option Nat}{ba:OA}{vs:List Value}{m c:Nat}{src:OA×Nat ⊕ List Value}{size bytes:Nat}{ty:TypeId}
  (h:aD T st.aP st.boxes o.op=.app old ba vs m c src size bytes ty)(hv:pD (.app old ba vs m c src size bytes ty) (some d) st V K) :
  ∃v w' st' β',(execOp a.eval o).run P w=.ok (.value v) w'/\Mod n V0 aW β0 st' β' (a.put (some d) v) w' V/\K st' V:=by
 obtain ⟨cl,hop,mC⟩:=(dZ (T:=T) (ρ:=st.aP) (bx:=st.boxes) (op:=o.op)).2.2 (by rw [h];rfl)
 rw [hop] at h
 simp only [aD,mC] at h
 split at h
 ·rename_i b x t t' hargs hts
  split at h
  ·rename_i i i' hi hi'
   split at h
   ·rename_i e e' hk hk'
    split at h
    ·rename_i ei yf
     obtain ⟨G8,d0,z0,h1,h2,h3,h4,-⟩:=aw (hT _ _ hi)
     obtain ⟨H2,d0',SA,h1',h2',h3',h4',-⟩:=aw (hT _ _ hi')
     obtain ⟨info,de,z,e1,e2,e3,e4,e5,e6,e7⟩:=aw (hT _ _ yf)
     rw [h4] at hk
     rw [h4'] at hk'
     obtain rfl:=aL hk
     obtain rfl:=aL hk'
     obtain ⟨rfl,rfl,rfl,hb0,hs0,hzs,⟨base,hbd,hold⟩,xa,k,xc,hxd,hsrc⟩:=wu hM e5 e6 e7 h
     obtain ⟨q1,q2⟩:=dY hM _ _ hargs
     have f1:cl.argTypes=#[t,t']:=by apply Array.ext';exact hts
     have f2:cl.args.map a.eval=#[.slice base m c,.slice xa k xc]:=by
      apply Array.ext';rw [Array.toList_map,q1];simp [hbd,hxd]
     have hrun:∀{v w'},(Builtin.append_ #[t,t] o.type #[.slice base m c,.slice xa k xc]).run P w=.ok v w'->(execOp a.eval o).run P w=.ok (.value v) w':=by
      intro v w' hr
      simp only [execOp,hop,resolve,mC,pure_bind,invoke,f1,f2,builtin]
      refine cQ ?_
      rw [uo h2 h2']
      exact hr
     have fin:∀{v w' st' β'},(Builtin.append_ #[t,t] o.type #[.slice base m c,.slice xa k xc]).run P w=.ok v w'->Mod n V0 aW β0 st' β' (a.put (some d) v) w' V->K st' V ->
       ∃v w' st' β',(execOp a.eval o).run P w=.ok (.value v) w'/\Mod n V0 aW β0 st' β' (a.put (some d) v) w' V/\K st' V:=fun r1 r2 r3=>⟨_,_,_,_,hrun r1,r2,r3⟩
     have Gu:∀xs,V.sl xa xs->xs.length=k*info.size->(∀v∈xs,v.oneCell'=true)->Src w xa k info.size xs:=by
      intro xs hsl hxl h1
      refine ⟨hxl,h1,?_⟩
      cases xa with
      | some ad=>exact .inl ⟨ad,rfl,rX hM hsl⟩
      | none=>
       refine .inr ⟨rfl,?_⟩
       have:xs=[]:=by
        cases xs with
        | nil=>rfl
        | cons y r=>obtain ⟨ad,e,-⟩:=hsl 0 y (by simp);cases e
       rw [this] at hxl
       rcases Nat.mul_eq_zero.1 hxl.symm with h|h
       ·exact h
       ·exact absurd h hs0
     rcases hold with ⟨s,rfl,rfl,hg,hbb⟩|⟨rfl,rfl⟩
     ·rcases hsrc with rfl|⟨xs,rfl,hxl,hcells⟩
      ·obtain ⟨xs,hsl,hxl,hv⟩:=hv
       obtain ⟨v,w',st',β',r1,r2,r3⟩:=qn (ty:=o.type) (xc:=xc) hM hd h2 e1 e3 hzs hb0 hg hbb (Gu xs hsl hxl hv.2.2.2.2.1) hv
       exact fin r1 r2 r3
      ·have hkk:xs.length / info.size=k:=by rw [hxl];exact Nat.mul_div_cancel _ (by omega)
       simp only [pD,hkk] at hv
       obtain ⟨v,w',st',β',r1,r2,r3⟩:=qn (ty:=o.type) (xc:=xc) hM hd h2 e1 e3 hzs hb0 hg hbb ⟨hxl,hv.2.2.2.2.1,hcells hv.2.2.2.2.1⟩ hv
       exact fin r1 r2 r3
     ·obtain ⟨vs,JU,hvl,hmc,hn0,hv⟩:=hv
      rcases hsrc with rfl|⟨xs,rfl,hxl,hcells⟩
      ·obtain ⟨xs,hsl,hxl,hv1,hv2⟩:=hv
       by_cases hk0:k=0
       ·have hK:=hv1 hk0
        subst hk0
        refine fin (v:=.slice base m c) (w':=w) ?_ (hM.put (x:=.c (.v (.slice base m c))) hd rfl (fun s hs=>by cases hs)) hK
        cases xa with
        | none=>exact qm h2 e1 base m c xc hmc
        | some ad=>cases base<;>simp [Builtin.append_,ag h2,aC e1,Builtin.lenOf,Builtin.firstCells,loadCells,loadCellsFrom,storeCells,hmc]
       ·have hK:=hv2 hk0
        obtain ⟨v,w',st',β',r1,r2,r3⟩:=qo (ty:=o.type) (xc:=xc) hM hd h2 e1 e3 hzs hb0 JU hvl hmc hn0 hs0 (Gu xs hsl hxl hK.2.2.2.1) hK
        exact fin r1 r2 r3
      ·have hkk:xs.length / info.size=k:=by rw [hxl];exact Nat.mul_div_cancel _ (by omega)
       dsimp only at hv
       rw [hkk] at hv
       obtain ⟨v,w',st',β',r1,r2,r3⟩:=qo (ty:=o.type) (xc:=xc) hM hd h2 e1 e3 hzs hb0 JU hvl hmc hn0 hs0 ⟨hxl,hv.2.2.2.1,hcells hv.2.2.2.1⟩ hv
       exact fin r1 r2 r3
    ·cases h
   ·cases h
  ·cases h
 ·cases h
theorem AR (hT:ck.ok P T)(hM:Mod n V0 aW β0 st β a w V){o:Oper}{K:St->View->Prop}{d:Nat}(hd:d<n){s:Nat}{vs:List Value}{m c:Nat}{src:OA×Nat ⊕ List Value}{size bytes:Nat}{ty:TypeId}
  (h:aD T st.aP st.boxes o.op=.nV s vs m c src size bytes ty)(hv:pD (.nV s vs m c src size bytes ty) (some d) st V K) :
  ∃v w' st' β',(execOp a.eval o).run P w=.ok (.value v) w'/\Mod n V0 aW β0 st' β' (a.put (some d) v) w' V/\K st' V:=by
 obtain ⟨cl,hop,mC⟩:=(dZ (T:=T) (ρ:=st.aP) (bx:=st.boxes) (op:=o.op)).2.2 (by rw [h];rfl)
 rw [hop] at h
 simp only [aD,mC] at h
 split at h
 ·rename_i b x t t' hargs hts
  split at h
  ·rename_i i i' hi hi'
   split at h
   ·rename_i e e' hk hk'
    split at h
    ·rename_i ei yf
     obtain ⟨G8,d0,z0,h1,h2,h3,h4,-⟩:=aw (hT _ _ hi)
     obtain ⟨H2,d0',SA,h1',h2',h3',h4',-⟩:=aw (hT _ _ hi')
     obtain ⟨info,de,z,e1,e2,e3,e4,e5,e6,e7⟩:=aw (hT _ _ yf)
     rw [h4] at hk
     rw [h4'] at hk'
     obtain rfl:=aL hk
     obtain rfl:=aL hk'
     obtain ⟨rfl,rfl,rfl,hb0,hs0,hzs,⟨hbd,hbb⟩,xa,k,xc,hxd,hsrc⟩:=tA hM e5 e6 e7 h
     obtain ⟨q1,q2⟩:=dY hM _ _ hargs
     have f1:cl.argTypes=#[t,t']:=by apply Array.ext';exact hts
     have f2:cl.args.map a.eval=#[.slice (mA (β s) c) m c,.slice xa k xc]:=by
      apply Array.ext';rw [Array.toList_map,q1];simp [hbd,hxd]
     have hrun:∀{v w'},(Builtin.append_ #[t,t] o.type #[.slice (mA (β s) c) m c,.slice xa k xc]).run P w=.ok v w'->(execOp a.eval o).run P w=.ok (.value v) w':=by
      intro v w' hr
      simp only [execOp,hop,resolve,mC,pure_bind,invoke,f1,f2,builtin]
      refine cQ ?_
      rw [uo h2 h2']
      exact hr
     have fin:∀{v w' st' β'},(Builtin.append_ #[t,t] o.type #[.slice (mA (β s) c) m c,.slice xa k xc]).run P w=.ok v w'->Mod n V0 aW β0 st' β' (a.put (some d) v) w' V->K st' V ->
       ∃v w' st' β',(execOp a.eval o).run P w=.ok (.value v) w'/\Mod n V0 aW β0 st' β' (a.put (some d) v) w' V/\K st' V:=fun r1 r2 r3=>⟨_,_,_,_,hrun r1,r2,r3⟩
     have Gu:∀xs,V.sl xa xs->xs.length=k*info.size->(∀v∈xs,v.oneCell'=true)->Src w xa k info.size xs:=by
      intro xs hsl hxl h1
      refine ⟨hxl,h1,?_⟩
      cases xa with
      | some ad=>exact .inl ⟨ad,rfl,rX hM hsl⟩
      | none=>
       refine .inr ⟨rfl,?_⟩
       have:xs=[]:=by
        cases xs with
        | nil=>rfl
        | cons y r=>obtain ⟨ad,e,-⟩:=hsl 0 y (by simp);cases e
       rw [this] at hxl
       rcases Nat.mul_eq_zero.1 hxl.symm with h|h
       ·exact h
       ·exact absurd h hs0
     rcases hsrc with rfl|⟨xs,rfl,hxl,hcells⟩
     ·obtain ⟨xs,hsl,hxl,hv⟩:=hv
      obtain ⟨v,w',st',β',r1,r2,r3⟩:=rA (ty:=o.type) (xc:=xc) hM hd h2 e1 e3 hzs hb0 hs0 hbb (Gu xs hsl hxl hv.2.2.2.2.1) hv
      exact fin r1 r2 r3
     ·have hkk:xs.length / info.size=k:=by rw [hxl];exact Nat.mul_div_cancel _ (by omega)
      simp only [pD,hkk] at hv
      obtain ⟨v,w',st',β',r1,r2,r3⟩:=rA (ty:=o.type) (xc:=xc) hM hd h2 e1 e3 hzs hb0 hs0 hbb ⟨hxl,hv.2.2.2.2.1,hcells hv.2.2.2.2.1⟩ hv
      exact fin r1 r2 r3
    ·cases h
   ·cases h
  ·cases h
 ·cases h
theorem yS (hT:ck.ok P T)(hM:Mod n V0 aW β0 st β a w V){o:Oper}{K:St->View->Prop}{next:Act->World->Prop}{Q:Exit->Act->World->Prop}
  (hd:∀d,o.dst=some d->d<n)(hv:pD (aD T st.aP st.boxes o.op) o.dst st V K)
  (hK:∀st' β' a' w' V',Mod n V0 aW β0 st' β' a' w' V'->K st' V'->next a' w'):o.wp P a w next Q:=by
 unfold Oper.wp
 generalize hq:aD T st.aP st.boxes o.op=q at hv
 cases q with
 | fail=>exact hv.elim
 | ret sc x=>
  obtain ⟨h1,h2⟩:=(cI sc _).1 hv
  obtain ⟨r1,r2⟩:=CW hT hM hq h1
  rw [r1]
  exact hK _ _ _ _ _ (hM.AK hd rfl r2) h2
 | new sc b x=>
  simp only [pD] at hv
  cases hdst:o.dst with
  | none=>rw [hdst] at hv;exact hv.elim
  | some d=>
   rw [hdst] at hv
   dsimp only at hv
   split at hv
   ·rename_i hn
    obtain ⟨h1,h2⟩:=(cI sc _).1 hv
    obtain ⟨v,r1,r2,r3⟩:=CV hT hM hq h1
    rw [r1]
    have hM':=hM.new (hd d hdst) hn r3
    have:=hM'.put (x:=x d) (v:=v) (hd d hdst) (r2 d).1 (by
     intro s hs
     rw [(r2 d).2] at hs
     simp at hs
     subst hs
     exact ⟨b,by rw [ah,if_pos rfl]⟩)
    simp only [Oper.upon_value,hdst]
    exact hK _ _ _ _ _ this h2
   ·exact hv.elim
 | pC sc s b=>
  simp only [pD] at hv
  cases hdst:o.dst with
  | some d=>rw [hdst] at hv;exact hv.elim
  | none=>
   rw [hdst] at hv
   dsimp only at hv
   obtain ⟨h1,h2⟩:=(cI sc _).1 hv
   obtain ⟨nx,w',r1,rx,r2⟩:=CX hT hM hq h1
   rw [r1]
   rcases rx with rfl|⟨v,rfl⟩
   ·simp only [Oper.upon_skip,hdst]
    exact hK _ _ _ _ _ r2 h2
   ·simp only [Oper.upon_value,hdst]
    exact hK _ _ _ _ _ r2 h2
 | rd p sh=>
  obtain ⟨x,h1,h2,h3⟩:=qi.dm sh hv
  have h2':(∃c,x=.c c/\∃s',sh=.one s')\/∃cs l,x=.agg cs/\sh=.agg l/\cs.length=l.length:=h2
  obtain ⟨r1,r2⟩:=EV hT hM hq h1 h2' h3
  rw [r1]
  exact hK _ _ _ _ _ (hM.AK hd rfl (bq h1)) r2
 | kY vs of size sh=>
  obtain ⟨x,h1,h2,h3,h4⟩:=qi.dm sh hv
  have r1:=yR hT hM hq h1 h2 h3
  rw [r1]
  exact hK _ _ _ _ _ (hM.AK hd rfl (bq h1)) h4
 | nV s vs m c src size bytes ty=>
  cases hdst:o.dst with
  | none=>rw [hdst] at hv;exact hv.elim
  | some d=>
   rw [hdst] at hv
   obtain ⟨v,w',st',β',r1,r2,r3⟩:=AR hT hM (hd d hdst) hq hv
   rw [r1]
   simp only [Oper.upon_value,hdst]
   exact hK _ _ _ _ _ r2 r3
 | app old ba vs m c src size bytes ty=>
  cases hdst:o.dst with
  | none=>rw [hdst] at hv;exact hv.elim
  | some d=>
   rw [hdst] at hv
   obtain ⟨v,w',st',β',r1,r2,r3⟩:=CU hT hM (hd d hdst) hq hv
   rw [r1]
   simp only [Oper.upon_value,hdst]
   exact hK _ _ _ _ _ r2 r3
end Go.Eng
