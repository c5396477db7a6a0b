/- Part of a proof: engine A7. -/
import Derived.Test.YtdngefmliibcgaaGreatM02
set_option linter.all false
set_option maxRecDepth 20000
set_option maxHeartbeats 20000000
namespace Go.Abs
open Go
variable  {c:Array Value}{p b j k i id q f n off s l kd:Nat}{us:List Value}{P:Program}{el t ty:TypeId}{v e v':V}{x y:Operand}{u:Value}{es cs vs:List V}{ob Hq:Ob}{eU r ag:Bool}{ms:Array (String×TypeId)}
def Ext.setRow{w:World}{I:Nat->Prop}{σ:jt}{b:Nat}{c c':Array Value}{el:TypeId}(hI: ¬I b)(hb:kN w b c el)(sY:c'.size=c.size):
  Ext w I σ (w.setRow b c') I σ:=by
 refine⟨fun b' wL=>setRow_other w b b' c' (fun e=>hI (e▸wL)),fun b' c1 el1 fz hc=> ?_,fun _ h=>h,fun _ _ h=>h⟩;by_cases e:b'=b
 ·subst e;obtain⟨fz0,Lw,_⟩:=hb;rw[Lw]at hc;obtain⟨rfl,rfl,rfl⟩:=hc;exact⟨c',_,setRow_heap w b' c c' el _ Lw,sY⟩
 ·exact⟨c1,fz,by rw[setRow_other w b b' c' e];omega,rfl⟩
def rW(c:Array Value)(p:Nat)(us:List Value):Array Value:=(c.toList.take p++us++c.toList.drop (p+us.length)).toArray
def oL(h:p+us.length<=c.size):(rW c p us).size=c.size:=by
 simp[rW];omega
def vU(h:p+us.length<=c.size)(j:Nat):(rW c p us)[j]?=if p<=j/\j<p+us.length then us[j-p]? else c[j]?:=by
 simp only[rW,List.getElem?_toArray];by_cases h1:j<p
 ·grind
 grind
def Uo{w:World}{v:Value}(h:kN w b c el)(hj:j<c.size)(h1:v.oneCell'=true):
  (store ⟨b,j,none⟩ v).run P w= .ok () (w.setRow b (c.setIfInBounds j v)):=by
 have hf:=h.free hj;obtain⟨fz,hb⟩:=h.at;have e:w.cell? ⟨b,j,none⟩=some c[j]:=by simp[World.cell?,hb,hj]
 rw[run_store P w _ v _ h1,e];simp[hf,setCell_eq_setRow w b j c el fz v hb]
def Up{v:Value}(h:p+(us.length+1)<=c.size):rW (c.setIfInBounds p v) (p+1) us=rW c p (v::us):=by
 apply Array.ext_getElem?;intro j;rw[vU (by grind),vU (by omega)]
 grind
def wN{P:Program}{b p:Nat}{el:TypeId}: ∀(vs:List Value) (i:Nat) (c:Array Value) (w:World),kN w b c el->p+i+vs.length<=c.size->(∀v∈vs,v.oneCell'=true)->
  (storeCells ⟨b,p,none⟩ vs i).run P w= .ok () (w.setRow b (rW c (p+i) vs))
 | [],i,c,w,h,_,_=>by
  obtain⟨fz,hb⟩:=h.at;have e:rW c (p+i) []=c:=by simp[rW]
  rw[e,setRow_self w b c el fz hb];rfl
 |v::vs,i,c,w,h,hl,h1=>by
  simp only[abJ]at hl;have ha:(⟨b,p,none⟩:Addr).add i=⟨b,p+i,none⟩:=by simp[Addr.add]
  have hs:=Uo (P:=P) (v:=v) h (show p+i<c.size by omega) (h1 v (by simp));have ih:=wN (P:=P) (b:=b) (p:=p) vs (i+1) (c.setIfInBounds (p+i) v) (w.setRow b (c.setIfInBounds (p+i) v)) (h.set (by simp)) (by grind) fun x hx=>h1 x (by grind);rw[<-Nat.add_assoc,Up (by omega),setRow_setRow]at ih;simp only[storeCells,Sem.run_bind,ha,hs,Result.andThen_ok,ih]
def kN.cell{w:World}{b:Nat}{c:Array Value}{el:TypeId}(h:kN w b c el){j:Nat}:w.cell? ⟨b,j,none⟩=c[j]?:=by
 obtain⟨fz,hb⟩:=h.at;simp[World.cell?,hb]
def Kg   {x:TI} (T:mo P t x) {w:World}    (hb:kN w b c el)
   (hu:u.cells.size=x.size) (h1: ∀y∈u.cells.toList,y.oneCell'=true) (hle:p+x.size<=c.size):
  (storeVar t ⟨b,p,none⟩ u).run P w= .ok () (w.setRow b (rW c p u.cells.toList)):=by
 have kD:=wN (P:=P) (b:=b) (p:=p) u.cells.toList 0 c w hb (by grind) h1;simp[storeVar,run_sizeOf T,hu,kD]
def dK.get{w:World}{I:Nat->Prop}{σ:jt}{o:Nat}(h:dK w I σ es k b o)(hi:es[i]?=some e):e.cells.length=k/\Cg w I σ e.cells b (o+i*k):=
 (lN es k b o).1 h i e hi
def Rel.at{w:World}{I:Nat->Prop}{σ:jt}{h:bh}(R:Rel w I σ h)(ho:h id=some ob)(hi:ob.es[i]?=some e):
  ∃b o c el,σ id=some (b,o,ob.k)/\ ¬I b/\kN w b c el/\o+ob.es.length*ob.k<=c.size/\dK w I (my ob.eU σ) ob.es ob.k b o:=by
 rcases R.obj id ob ho with⟨he,_⟩|h
 ·grind
 omega
def Pn(hp:p<k)(hq:q<k)(h:i*k+p=j*k+q):i=j:=by
 rcases adP i j with gY|he|gY
 ·have:(i+1)*k<=j*k:=abM k gY
  grind
 ·omega
 ·have:(j+1)*k<=i*k:=abM k gY
  grind
def Uq   {x:TI} (T:mo P t x) {w:World} {I:Nat->Prop} {σ:jt} {h:bh} (R:Rel w I σ h)    
  (ho:h id=some ob) (hi:ob.es[i]?=some e) (hr:dB w I (my ob.eU σ) v u) (hf:v.fits x.size=true) (hle:f+x.size<=e.cells.length) (n:Nat)
  {o:Nat} (hs:σ id=some (b,o,k)):
  ∃w',(storeVar t ⟨b,o+i*k+f,none⟩ u).run P w= .ok () w'/\Step w I σ h n w' I σ (aR h id (some {ob with es:=ob.es.set i (e.put f v)})) n:=by
 obtain⟨b',o',c,el,oM,hI,hb,sY,fV⟩:=R.at ho hi;obtain⟨fz,Lw⟩:=hb.at;rw[hs]at oM;obtain⟨rfl,rfl,rfl⟩:=oM;have tq:=fV.get hi;have pW:=hr.cells hf;have EV:i<ob.es.length:=(List.getElem?_eq_some_iff.1 hi).1;have IN:(i+1)*ob.k<=ob.es.length*ob.k:=abM _ EV;rw[acA]at IN;have SH:u.cells.size=x.size:=by
  have:=(dL _ _).1 pW.2;simp at this;omega
 have vV:o+i*ob.k+f+x.size<=c.size:=by omega
 have kn:=Kg T (p:=o+i*ob.k+f) hb SH pW.2.ap9 vV;have Hp:o+i*ob.k+f+u.cells.toList.length<=c.size:=by simp;omega
 refine⟨_,kn,R.write ho hs hb (oL Hp) (by grind) ?_ n⟩;have E:Ext w I (my ob.eU σ) (w.setRow b (rW c (o+i*ob.k+f) u.cells.toList)) I (my ob.eU σ):=Ext.setRow hI hb (oL Hp);rw[lN];intro j e' hj;rw[abK]at hj;by_cases mz:i=j
 ·subst mz;simp[EV]at hj;subst hj;have D1:=Un T.pos hf (e:=e) (f:=f) hle;refine⟨by rw[D1,sm];omega,?_⟩;intro q y hq;rw[D1,qw _ _ _ _ (by omega)]at hq;rw[cell_setRow_same w b _ c _ el fz Lw,vU Hp];split at hq
  ·rename_i xy;obtain⟨u',h1,h2,h3⟩:=pW.2.get hq;refine⟨u',?_,h2,h3.ext E⟩
   grind
  ·rename_i xy;obtain⟨u',h1,h2,h3⟩:=tq.2 q y hq;refine⟨u',?_,h2,h3.ext E⟩;rw[if_neg (by grind)];rw[cell_of_row w b _ c el fz Lw]at h1;omega
 ·rw[if_neg mz]at hj;have hej:=fV.get hj;refine⟨hej.1,?_⟩;intro q y hq;have hqk:q<ob.k:=by rw[<-hej.1];exact(List.getElem?_eq_some_iff.1 hq).1
  obtain⟨u',h1,h2,h3⟩:=hej.2 q y hq;refine⟨u',?_,h2,h3.ext E⟩;rw[cell_setRow_same w b _ c _ el fz Lw,vU Hp,if_neg ?_]
  ·rw[cell_of_row w b _ c el fz Lw]at h1;omega
  ·simp only[abU];intro ⟨ha,wL⟩;apply mz;exact Pn (k:=ob.k) (p:=j*ob.k+q-i*ob.k) (q:=q) (by omega) hqk (by omega)
def Po(w:World)(o:Obj)(b:Nat)(h:b<w.heap.size):(w.alloc o).heap[b]?=w.heap[b]?:=by
 show(w.heap.push o)[b]?=w.heap[b]?
 grind
def aqb(w:World)(o:Obj):(w.alloc o).heap[w.heap.size]?=some o:=by
 show(w.heap.push o)[w.heap.size]?=some o;simp
def Ext.alloc{w:World}{I:Nat->Prop}{σ:jt}(hI: ∀b,I b->b<w.heap.size)(ob:Obj):Ext w I σ (w.alloc ob) I σ:=
 ⟨fun b hb=>Po w ob b (hI b hb),fun b c el fz h=>⟨c,fz,by rw[Po w ob b (by grind)];exact h,rfl⟩,fun _ h=>h,fun _ _ h=>h⟩
def EW(w:World)(ob:Obj):(w.alloc ob).heap.size=w.heap.size+1:=by simp_all
def Rel.alloc{w:World}{I:Nat->Prop}{σ:jt}{h:bh}(R:Rel w I σ h)(ob:Obj):Rel (w.alloc ob) I σ h:=by
 refine R.eU (Ext.alloc R.ed ob) (fun b hb=>by rw[EW];have:=R.ed b hb;omega) (fun b hb=> ?_) (fun _ _=>rfl);obtain⟨hi,c,el,hh⟩:=R.owned hb;exact⟨Po w ob b hh.lt,hi⟩
def Kh {w:World} {I:Nat->Prop} {σ:jt} {h:bh} (R:Rel w I σ h)     (c:Array Value)
  (hn:h n=none) (hs:σ n=none) (hle:es.length*k<=c.size)
  (hr:dK (w.alloc (.cells c el)) I (my eU (aR σ n (some (w.heap.size,0,k)))) es k w.heap.size 0):
  Step w I σ h n (w.alloc (.cells c el)) I (aR σ n (some (w.heap.size,0,k))) (aR h n (some ⟨k,es,eU⟩)) (n+1):=by
 have EX:=aqb w (.cells c el);have hnI: ¬I w.heap.size:=fun hi=>by have:=R.ed _ hi;omega
 have hnO: ¬jk σ h w.heap.size:=fun ho=>by
  obtain⟨_,c',Pm,hh⟩:=R.owned ho;have:=hh.lt;omega
 have R1:=(R.alloc (.cells c el)).X3 (n:=n) (b:=w.heap.size) (o:=0) (k:=k) (es:=es) (eU:=eU) hn hs (kN.zero EX) hnI hnO (by omega) hr;refine⟨(Ext.alloc R.ed _).trans (Ext.Ul hs),R1,rfl,rfl,rfl,by grind,fun b hb _=>Po w _ b hb,fun b hb=> ?_,fun _ hb=> .inl hb,by omega,fun id fg=>by grind [aR],fun id fg LX=>by grind [aR]⟩;obtain⟨id,ob,o,k',h1,h2⟩:=hb;by_cases e:id=n
 ·grind [aR]
 ·right;exact⟨id,ob,o,k',by grind [aR],by grind [aR]⟩
def SI{w:World}{I:Nat->Prop}{σ:jt}{h:bh}(R:Rel w I σ h)(hs:σ n=none)(hr:dB w I σ v u)(hf:v.fits k=true):
  dK (w.alloc (.cells u.cells el)) I (aR σ n (some (w.heap.size,0,k))) [v] k w.heap.size 0:=by
 have hc:=hr.cells hf;rw[kM];refine⟨hc.1,fun j c hj=> ?_,by simp[dK]⟩;obtain⟨u',h1,h2,h3⟩:=hc.2.get hj;refine⟨u',?_,h2,h3.ext ((Ext.alloc R.ed _).trans (Ext.Ul hs))⟩
 simp_all
def sliceB(P:Program)(t:TypeId)(x:TI):Bool:=
 match P.underlying t with
 |some (.slice e)=>e==x.elem
 |_=>false
def kdB(P:Program)(t:TypeId)(kd:Nat):Bool:=
 match P.underlying t,kd with
 |some (.int _),0=>true
 |some .bool,1=>true
 |some .string,2=>true
 |_,_=>false
def EY(P:Program):Nat->List Field->List Nat->Bool
 |_,[],[]=>true
 |j,f::fs,k::ks=>f.name != "_" &&f.offset==j&&kdB P f.type k&&EY P (j+1) fs ks
 |_,_,_=>false
def eqB(P:Program)(t:TypeId)(ag:Bool)(wJ:List Nat):Bool:=
 match P.underlying t with
 |some (.struct fs)=>ag&& (wJ==[]||(!(P.stoodInHeld t)&& !(P.eqGuardType P.depth t)&&EY P 0 fs.toList wJ))
 |some .bool=> !ag&&wJ==[1]
 |some (.pointer _)=> !ag&&wJ==[3]
 |some (.array _ _)=>ag&&wJ==[9]
 |some (.interface _)=> !ag&& (wJ==[]||wJ==[4])
 |_=> !ag&& (wJ==[]||wJ==[0]||wJ==[2])
def tB(X:Env)(t:TypeId):Bool:=tiB X.P t (X.ti t)
def Ur(X:Env)(nt:Nat)(o:Oper):Bool:=
 (match o.dst with|some d=>decide (d<nt)|none=>true)&&o.op.operands.toList.all ahk&&
 (match o.op with
 | .alloc t| .box t _| .load t _| .fieldAddr t _ _=>tB X t
 | .store t _ _=>tB X t&&o.dst==none
 | .build t _=>tB X t&& ((X.ti t).arr==none||tB X (X.ti t).elem)
 | .buildSlice t n _=>sliceB X.P t (X.ti t)&&tB X (X.ti t).elem&&decide (n*(X.ti (X.ti t).elem).size<=2^24)
 | .makeSlice t _ _=>sliceB X.P t (X.ti t)&&tB X (X.ti t).elem
 | .indexAddr t _ _=>(((X.ti t).arr==none&&sliceB X.P t (X.ti t))||(tB X t&& (X.ti t).arr !=none))&&tB X (X.ti t).elem
 | .index t _ _=>tB X t&& ((X.ti t).arr==none||tB X (X.ti t).elem)&& ((X.ti t).arr !=none||(match X.P.underlying t with|some .string=>true|_=>false))
 | .field t _ f=>tB X o.type&& (match X.P.underlying t with|some (.struct fs)=>(match fs[f]?,(X.ti t).wI[f]? with|some fd,some (k,_)=>fd.type==o.type&&fd.offset==k|_,_=>false)|_=>false)
 | .convert s d _=>tB X d&& (X.P.underlying s).isSome&& (!(X.ti d).isStr||((match X.P.underlying d with|some .string=>true|_=>false)&& (match X.P.underlying s with|some (.slice e)=>(match X.P.underlying e with|some (.int .u8)=>true|_=>false)|_=>false)))&& ((X.ti d).isStr|| !((X.ti (X.ti d).elem).kind==some .u8)||(X.ti d).kind.isSome||(sliceB X.P d (X.ti d)&&tB X (X.ti d).elem))
 | .binOp .eql t _ y _| .binOp .neq t _ y _=>eqB X.P t (X.ti t).agg (X.ti t).wJ&& ((X.ti t).wJ !=[4]||(match y with| .const _=>true|_=>false))
 | .slice t _ _ _ _=>match X.P.underlying t with|some (.slice e)=> !(X.ti t).isStr&&e==(X.ti t).elem&&tB X e&& (X.ti t).arr==none|some .string=>(X.ti t).isStr&& (X.ti t).arr==none|some (.array n e)=> !(X.ti t).isStr&& (X.ti t).arr==some n&&e==(X.ti t).elem&&tB X e&&decide (n<=1000)|_=>false
 | .call ⟨.builtin .append,args,mM⟩=>args.size==2&& (match mM.toList with
   |t::u::_=>sliceB X.P t (X.ti t)&&tB X (X.ti t).elem&& (match X.P.underlying u with
    |some (.slice _)=>true
    |some .string=>true
    |_=>(X.ti u).kind.isSome)
   |_=>false)
 | .call ⟨.builtin .copy,args,mM⟩=>args.size==2&& (match mM.toList with
   |t::u::_=>sliceB X.P t (X.ti t)&&tB X (X.ti t).elem&& (match X.P.underlying u with
    |some (.slice _)=>true
    |some .string=>true
    |_=>false)
   |_=>false)
 | .call ⟨.builtin .len,args,mM⟩=>args.size==1&& (match mM.toList with
   |t::_=>(match X.P.underlying t with|some (.slice _)=> !(X.ti t).isStr|some .string=>(X.ti t).isStr|_=>false)
   |_=>false)
 |_=>true)
def Out(X:Env)(o:Oper)(a:Act)(w:World)(I:Nat->Prop)(σ:jt)(S S1:St):Prop:=
 ∃nx w' I' σ' u v,(execOp a.eval o).run X.P w= .ok nx w'/\(nx= .value u\/(nx= .skip/\u=undef))/\
  Step w I σ S.h S.n w' I' σ' S1.h S1.n/\S1.f=(S.set o.dst v).f/\dB w' I' σ' v u
section
variable {X:Env} {o:Oper} {a:Act} {w:World} {I:Nat->Prop} {σ:jt} {S S1:St}
theorem fm(S:St)(d:Option Nat)(v:V):(S.set d v).h=S.h:=by cases d<;>rfl
theorem gZ(S:St)(d:Option Nat)(v:V):(S.set d v).n=S.n:=by cases d<;>rfl
theorem rN(S S':St)(d:Option Nat)(v:V)(h:S'.f=S.f):(S'.set d v).f=(S.set d v).f:=by cases d<;>simp[St.set,h]
theorem Out.pure(R:Rel w I σ S.h)(h:(execOp a.eval o).run X.P w= .ok (.value u) w)(hr:dB w I σ v u)(hs:S1=S.set o.dst v):Out X o a w I σ S S1:=by
 subst hs;refine⟨_,w,I,σ,u,v,h,.inl rfl,?_,rfl,hr⟩;rw[fm,gZ];exact Step.refl R _
def oq(o:Oper):Prop:= ∀x∈o.op.operands.toList,ahk x=true
theorem iF{k:IntKind}{n:Int}(h:dB w I σ (.int k n) u):u= .int k n:=by simpa[dB] using h
theorem tS{b:Bool}(h:dB w I σ (.bool b) u):u= .bool b:=by simpa[dB] using h
theorem X7 {c:Operand} (ho:o.op= .pick c x y) (R:Rel w I σ S.h) (F:jv w I σ S.f a) (hx:oq o) {t:Bool} (hc:S.ev c= .bool t)
  (hs:S1=S.set o.dst (if t then S.ev x else S.ev y)):Out X o a w I σ S S1:=by
 have h1:=fj (S:=S) F (hx c (by simp[ho,Op.operands]));have h2:=fj (S:=S) F (hx x (by simp[ho,Op.operands]));have h3:=fj (S:=S) F (hx y (by simp[ho,Op.operands]));rw[hc]at h1;have hb:=tS h1;refine Out.pure (u:=if t then a.eval x else a.eval y) R ?_ ?_ hs
 ·simp[execOp,ho,hb,asBool]
 grind
theorem L0(ho:o.op= .move x\/o.op= .assign x)(R:Rel w I σ S.h)(F:jv w I σ S.f a)(hx:oq o)(hs:S1=S.set o.dst (S.ev x)):Out X o a w I σ S S1:=by
 have h1:dB w I σ (S.ev x) (a.eval x):=fj (S:=S) F (hx x (by rcases ho with h|h<;>simp[h,Op.operands]));refine Out.pure (u:=a.eval x) R ?_ h1 hs;rcases ho with h|h<;>simp[execOp,h]
theorem EZ{x:TI}(T:mo P t x)(w:World): ∃z,(zeroValue t).run P w= .ok z w/\IL x.zero z=true:=by
 obtain⟨i,z,hi,_,_,hz,hb⟩:=T.info;exact⟨z,by simp[zeroValue,typeInfo,hi,hz],hb⟩
theorem Us  (ho:o.op= .alloc t) (T:mo X.P t (X.ti t)) (R:Rel w I σ S.h) (hn:S.h S.n=none) (ve:σ S.n=none)
  (hs:S1=(S.new ⟨(X.ti t).size,[(X.ti t).zero],true⟩).set o.dst (.ptr S.n 0 0)):Out X o a w I σ S S1:=by
 subst hs;obtain⟨z,hz,hb⟩:=EZ T w;have hrz:dB w I σ (X.ti t).zero z:=LY T hb;refine⟨_,w.alloc (.cells z.cells t),I,aR σ S.n (some (w.heap.size,0,(X.ti t).size)),.pointer (some ⟨w.heap.size,0,none⟩),.ptr S.n 0 0,?_,.inl rfl,?_,?_,?_⟩
 ·simp[execOp,ho,Instr.alloc,hz,newVar,newRow]
 ·rw[fm,gZ];refine Kh R z.cells hn ve ?_ (SI R ve hrz T.ap8);have:=(hrz.cells T.ap8);have hl:=(dL _ _).1 this.2
  grind
 ·exact rN _ _ _ _ rfl
 ·exact⟨w.heap.size,0,(X.ti t).size,by simp[aR],by simp⟩
theorem ahm   (ho:o.op= .box t x) (R:Rel w I σ S.h) (F:jv w I σ S.f a) (hx:oq o) (hn:S.h S.n=none) (ve:σ S.n=none)
  (hf:(S.ev x).fits (X.ti t).size=true) (hs:S1=(S.new ⟨(X.ti t).size,[S.ev x],true⟩).set o.dst (.ptr S.n 0 0)):Out X o a w I σ S S1:=by
 subst hs;have hrz:dB w I σ (S.ev x) (a.eval x):=fj (S:=S) F (hx x (by simp[ho,Op.operands]));refine⟨_,w.alloc (.cells (a.eval x).cells t),I,aR σ S.n (some (w.heap.size,0,(X.ti t).size)),.pointer (some ⟨w.heap.size,0,none⟩),.ptr S.n 0 0,?_,.inl rfl,?_,?_,?_⟩
 ·simp[execOp,ho,Instr.box,newVar,newRow]
 ·rw[fm,gZ];refine Kh R (a.eval x).cells hn ve ?_ (SI R ve hrz hf);have:=(hrz.cells hf);have hl:=(dL _ _).1 this.2
  grind
 ·exact rN _ _ _ _ rfl
 ·exact⟨w.heap.size,0,(X.ti t).size,by simp[aR],by simp⟩
theorem Ki   (ho:o.op= .load t x) (T:mo X.P t (X.ti t)) (R:Rel w I σ S.h) (F:jv w I σ S.f a) (hx:oq o)
     (he:S.ev x= .ptr id i f) (gG:S.h id=some ob) (hi:ob.es[i]?=some e) (hv:part (X.ti t) e.cells f=some v) (hs:S1=S.set o.dst v):Out X o a w I σ S S1:=by
 have h1:dB w I σ (S.ev x) (a.eval x):=fj (S:=S) F (hx x (by simp[ho,Op.operands]));rw[he]at h1;obtain⟨b,of,k,mX,hu⟩:=h1;obtain⟨b',o',c,el,oM,hI,hb,sY,fV⟩:=R.at gG hi;rw[mX]at oM;obtain⟨rfl,rfl,rfl⟩:=oM;have hc:=(fV.get hi).2.ext (Ext.ES ob.eU) rfl;obtain⟨u,hld,hr⟩:=EU T (f:=f) hc hv;refine Out.pure (u:=u) R ?_ hr hs;simp[execOp,ho,hu,Instr.loadAt,Instr.sureAddr,hld]
theorem Kj   (ho:o.op= .load t x) (T:mo X.P t (X.ti t)) (R:Rel w I σ S.h) (F:jv w I σ S.f a) (hx:oq o)
    (he:S.ev x= .ref cs) (hv:part (X.ti t) cs 0=some v) (hs:S1=S.set o.dst v):Out X o a w I σ S S1:=by
 have h1:dB w I σ (S.ev x) (a.eval x):=fj (S:=S) F (hx x (by simp[ho,Op.operands]));rw[he]at h1;obtain⟨b,of,hu,hI,hc⟩:=h1;rw[tG]at hc;obtain⟨u,hld,hr⟩:=EU T (f:=0) hc hv;refine Out.pure (u:=u) R ?_ (hr.ext Ext.free) hs;simp only[adQ]at hld;simp[execOp,ho,hu,Instr.loadAt,Instr.sureAddr,hld]
theorem Dg{x:TI}(T:mo P t x)(hf:x.wI[i]?=some (off,k))(w:World)(b p:Nat):
  (Instr.fieldAt t (.pointer (some ⟨b,p,none⟩)) i).run P w= .ok (.pointer (some ⟨b,p+off,none⟩)) w:=by
 obtain⟨d,hd,hb⟩:=T.und;cases d with
 |struct fs=>
  simp only[Aa,aaF,beq_iff_eq]at hb;obtain⟨⟨⟨⟨_,wO⟩,_⟩,_⟩,L2⟩:=hb;rw[wO,abm]at hf;cases Kk:fs.toList[i]? with
  |none=>grind
  |some fd=>
   simp[Kk]at hf;have IP:fs[i]?=some fd:=by simpa using Kk
   have hp:=List.all_eq_true.1 L2 fd (aaT Kk);simp at hp;have sY:(sizeOf fd.type).run P w= .ok (P.cellsOf fd.type) w:=by
    unfold Program.cellsOf at hp⊢;cases hi:P.info? fd.type with
    |none=>grind
    |some i=>simp[sizeOf,typeInfo,hi]
   simp[Instr.fieldAt,run_underlying hd,IP,Instr.sureAddr,fieldPlace,sY,Nat.ne_of_gt hp,qv]
 |_=>
  simp[Aa]at hb
  grind
theorem Ab    (ho:o.op= .fieldAddr t x i) (T:mo X.P t (X.ti t)) (R:Rel w I σ S.h) (F:jv w I σ S.f a) (hx:oq o)
   (hf:(X.ti t).wI[i]?=some (off,k))  (hv:(∃id j f,S.ev x= .ptr id j f/\v= .ptr id j (f+off))\/(∃cs,S.ev x= .ref cs/\v= .ref (cs.drop off)))
  (hs:S1=S.set o.dst v):Out X o a w I σ S S1:=by
 have h1:dB w I σ (S.ev x) (a.eval x):=fj (S:=S) F (hx x (by simp[ho,Op.operands]));rcases hv with⟨id,j,f,he,rfl⟩|⟨cs,he,rfl⟩
 ·rw[he]at h1;obtain⟨b,of,k',mX,hu⟩:=h1;refine Out.pure (u:= .pointer (some ⟨b,of+j*k'+f+off,none⟩)) R ?_ ?_ hs
  ·simp[execOp,ho,hu,Dg T hf]
  ·exact⟨b,of,k',mX,by grind⟩
 ·rw[he]at h1;obtain⟨b,of,hu,hI,hc⟩:=h1;refine Out.pure (u:= .pointer (some ⟨b,of+off,none⟩)) R ?_ ?_ hs
  ·simp[execOp,ho,hu,Dg T hf]
  ·refine⟨b,of+off,rfl,hI,?_⟩;rw[tG]at hc⊢;intro q c hq;rw[abT]at hq;have:=hc (off+q) c hq
   grind
end
section
variable {w:World} {I:Nat->Prop} {σ:jt} {h:bh}
theorem tU(hv:v.oX=true)(hr:dB w I σ v u):dB w I fy v u:=by
 cases v with
 |int k n=>simpa[dB] using hr
 |bool b=>simpa[dB] using hr
 |str s=>simpa[dB] using hr
 |sl c es=>simpa only[dB] using hr
 |u7=>simpa[dB] using hr
 |OQ b=>simpa only[dB] using hr
 |fn g bwf bs=>
  cases bwf with
  |nil=>cases bs with
   |nil=>simpa[dB,iN] using hr
   |cons _ _=>simp[V.oX]at hv
  |cons _ _=>simp[V.oX]at hv
 |_=>simp[V.oX]at hv
def ahn(I:Nat->Prop)(σ:jt)(h h':bh):Nat->Prop:=fun b=>I b\/(jk σ h b/\ ¬jk σ h' b)
theorem jk.Pp(ho:jk σ (aR h id none) b):jk σ h b:=by
 obtain⟨i,ob,o,k,h1,h2⟩:=ho;by_cases e:i=id
 ·grind [aR]
 ·exact⟨i,ob,o,k,by grind [aR],h2⟩
theorem Rel.Kl(R:Rel w I σ h){o:Nat}(h1:h id=some ob)(h2:σ id=some (b,o,k)): ¬jk σ (aR h id none) b:=by
 rintro⟨i,oK,o',k',h3,h4⟩;by_cases e:i=id
 ·grind [aR]
 ·exact e (R.apart i id oK ob b o' k' o k (by grind [aR]) h1 h4 h2)
theorem IQ(R:Rel w I σ h){h':bh}(Aw: ∀id ob,h' id=some ob->h id=some ob)(n:Nat):Step w I σ h n w (ahn I σ h h') σ h' n:=by
 have E:Ext w I σ w (ahn I σ h h') σ:=⟨fun _ _=>rfl,fun _ c _ fz hh=>⟨c,fz,hh,rfl⟩,fun b hb=> .inl hb,fun _ _ hh=>hh⟩;have rV: ∀b,jk σ h' b->jk σ h b:=fun b ⟨i,ob,o,k,h1,h2⟩=>⟨i,ob,o,k,Aw _ _ h1,h2⟩;refine⟨E,(R.sub Aw).eU E (fun b hb=> ?_) (fun b hb=>⟨rfl,?_⟩) (fun _ _=>rfl),rfl,rfl,rfl,aaI _,fun _ _ _=>rfl,fun b hb=> .inr (rV b hb),fun b hb=> ?_,aaI _,fun _ _=>rfl,fun id _ hn=> ?_⟩
 ·rcases hb with hb|hb
  ·exact R.ed b hb
  ·obtain⟨_,c,el,hh⟩:=R.owned hb.1;exact hh.lt
 ·rintro(hi|⟨_,hn⟩)
  ·exact(R.owned (rV b hb)).1 hi
  grind
 ·rcases hb with hb|hb
  ·grind
  grind
 ·cases hc:h' id with
  |none=>rfl
  |some ob=>grind
theorem dK.SF{o:Nat}(hr:dK w I σ es k b o)(s l:Nat):dK w I σ ((es.drop s).take l) k b (o+s*k):=by
 rw[lN]at hr⊢
 grind
theorem L3{o:Nat}(he:es.all V.Pc=true)(hr:dK w I σ es k b o):dK w I fy es k b o:=by
 rw[lN]at hr⊢;intro i e hi;obtain⟨h1,h2⟩:=hr i e hi;refine⟨h1,fun j c hj=> ?_⟩;obtain⟨u,g1,g2,g3⟩:=h2 j c hj;refine⟨u,g1,g2,tU ?_ g3⟩;have hx:e.Pc=true:=List.all_eq_true.1 he e (aaT hi);cases e with
 |agg cs=>exact List.all_eq_true.1 hx c (aaT hj)
 |_=>
  cases j with
  |zero=>simp[V.cells]at hj;subst hj;exact hx
  |succ j=>simp[V.cells]at hj
theorem SJ (R:Rel w I σ h)    (hr:dB w I σ (.cu id s l) u) (gG:h id=some ob) (hk:(!ob.eU||ob.es.all V.Pc)=true) (hle:s+l<=ob.es.length)
  {J:Nat->Prop} (Ut: ∀b,I b->J b) (hJ: ∀b o k,σ id=some (b,o,k)->J b):dB w J fy (.sl false ((ob.es.drop s).take l)) u:=by
 obtain⟨a,cap,rfl,h1,h2,h3⟩:=hr;have hlen:((ob.es.drop s).take l).length=l:=by simp;omega
 refine⟨a,cap,by grind,by omega,h2,fun hc=>(by grind),?_⟩;by_cases hl:l=0
 ·grind
 ·right;rcases h3 with h3|⟨b,of,k,c,el,fz,hs,ha,hb,pW⟩
  ·omega
  ·have hi:ob.es[s]?=some (ob.es[s]'(by omega)):=by simp
   obtain⟨b',o',c',Pm,oM,hI,wL,sY,fV⟩:=R.at gG hi;rw[hs]at oM;obtain⟨rfl,rfl,rfl⟩:=oM;refine⟨b,of+s*ob.k,ob.k,ha,hJ b of ob.k hs,?_⟩;have awu:dK w I fy ob.es ob.k b of:=by
    cases xz:ob.eU with
    |false=>rw[xz]at fV;exact fV
    |true=>
     rw[xz]at hk;exact L3 (by grind) fV
   have ya:=awu.SF s l;have E:Ext w I fy w J fy:=⟨fun _ _=>rfl,fun _ c _ fz hh=>⟨c,fz,hh,rfl⟩,Ut,fun _ _ hh=>hh⟩;exact ya.nZ E rfl
theorem IS(R:Rel w I σ h){h':bh}(hr:dB w I σ v u)(hg:oY h v=some (v',h'))(n:Nat):
  ∃I',Step w I σ h n w I' σ h' n/\dB w I' fy v' u/\(∀id ob,h' id=some ob->h id=some ob):=by
 unfold oY at hg;split at hg
 ·rename_i id s l;cases gG:h id with
  |none=>grind
  |some ob=>
   simp only[gG]at hg;split at hg
   ·rename_i hc;simp only[aaF,decide_eq_true_eq]at hc;obtain⟨rfl,rfl⟩:=hg;have Aw: ∀i oK,aR h id none i=some oK->h i=some oK:=by
     intro i oK hi;by_cases e:i=id
     ·grind [aR]
     ·grind [aR]
    refine⟨_,IQ R Aw n,dB.lM (v:= .sl false _) (SJ R hr gG hc.1 hc.2 (fun b hb=> .inl hb) (fun b o k hs=> .inr ⟨⟨id,ob,o,k,gG,hs⟩,R.Kl gG hs⟩)),Aw⟩
   grind
 ·split at hg
  ·rename_i hi;obtain⟨rfl,rfl⟩:=hg;exact⟨I,Step.refl R n,(tU hi hr).lM,fun _ _ hh=>hh⟩
  grind
theorem IT: ∀{cs rS:List V} {I:Nat->Prop} {h h':bh} {us:List Value},Rel w I σ h->fP w I σ cs us->fY h cs=some (rS,h')-> ∀n:Nat,
  ∃I',Step w I σ h n w I' σ h' n/\fP w I' fy rS us/\(∀id ob,h' id=some ob->h id=some ob)
 | [],rS,I,h,h',us,R,hr,hg,n=>by
  obtain⟨rfl,rfl⟩:=hg;exact⟨I,Step.refl R n,by simpa[fP] using hr,fun _ _ hh=>hh⟩
 |c::cs,rS,I,h,h',us,R,hr,hg,n=>by
  obtain⟨u,r,rfl,h1,h2,h3⟩:=hr;simp only[fY]at hg;cases hc:oY h c with
  |none=>grind
  |some x=>
   obtain⟨c',uE⟩:=x;simp only[hc]at hg;cases hl:fY uE cs with
   |none=>grind
   |some y=>
    simp only[hl,aA,bM]at hg;obtain⟨rfl,rfl⟩:=hg;obtain⟨I1,s1,r1,Hz⟩:=IS R h2 hc n;have X8:fP w I1 σ cs r:=fP.ext' cs r s1.ext h3;obtain⟨I2,s2,r2,X9⟩:=IT s1.rel X8 hl n;refine⟨I2,s1.trans s2,?_,fun id ob hh=>Hz _ _ (X9 _ _ hh)⟩;exact⟨u,r,rfl,h1,r1.ext s2.ext.Ke,r2⟩
theorem E3(R:Rel w I σ h){h':bh}(hr:dB w I σ v u)(hg:qu h v=some (v',h'))(n:Nat):
  ∃I',Step w I σ h n w I' σ h' n/\dB w I' fy v' u/\(∀id ob,h' id=some ob->h id=some ob):=by
 unfold qu at hg;split at hg
 ·rename_i cs;cases hl:fY h cs with
  |none=>grind
  |some y=>
   simp only[hl,aA,bM]at hg;obtain⟨rfl,rfl⟩:=hg;obtain⟨us,rfl,hc⟩:=hr;obtain⟨I1,s1,r1,sub⟩:=IT R hc hl n;exact⟨I1,s1,by exact⟨us,rfl,r1⟩,sub⟩
 ·exact IS R hr hg n
theorem IU: ∀{ps xW:List (Nat×V)} {I:Nat->Prop} {h h':bh} {us:List Value},Rel w I σ h->iN w I σ (ps.map (·.2)) us->mL h ps=some (xW,h')-> ∀n:Nat,
  ∃I',Step w I σ h n w I' σ h' n/\iN w I' fy (xW.map (·.2)) us/\xW.map (·.1)=ps.map (·.1)/\(∀id ob,h' id=some ob->h id=some ob)
 | [],xW,I,h,h',us,R,hr,hg,n=>by
  obtain⟨rfl,rfl⟩:=hg;exact⟨I,Step.refl R n,by simpa[iN] using hr,rfl,fun _ _ hh=>hh⟩
 |(i,c)::ps,xW,I,h,h',us,R,hr,hg,n=>by
  obtain⟨u,r,rfl,h2,h3⟩:=hr;simp only[mL]at hg;cases hc:qu h c with
  |none=>grind
  |some x=>
   obtain⟨c',uE⟩:=x;simp only[hc]at hg;cases hl:mL uE ps with
   |none=>grind
   |some y=>
    simp only[hl,aA,bM]at hg;obtain⟨rfl,rfl⟩:=hg;obtain⟨I1,s1,r1,Hz⟩:=E3 R h2 hc n;have X8:iN w I1 σ (ps.map (·.2)) r:=iN.ext' _ r s1.ext h3;obtain⟨I2,s2,r2,e2,X9⟩:=IU s1.rel X8 hl n;refine⟨I2,s1.trans s2,?_,by grind,fun id ob hh=>Hz _ _ (X9 _ _ hh)⟩;exact⟨u,r,rfl,r1.ext s2.ext.Ke,r2⟩
end
section
variable {X:Env} {o:Oper} {a:Act} {w:World} {I:Nat->Prop} {σ:jt} {S S1:St}
theorem Uu   (ho:o.op= .store t x y) (T:mo X.P t (X.ti t)) (R:Rel w I σ S.h) (F:jv w I σ S.f a) (hx:oq o)
     {h:bh}   (he:S.ev x= .ptr id i f) (h0:S.h id=some Hq)
  (hg:(if Hq.eU then some (S.ev y,S.h) else qu S.h (S.ev y))=some (v,h)) (gG:h id=some ob) (hi:ob.es[i]?=some e)
  (hf:(v.fits (X.ti t).size&&decide (f+(X.ti t).size<=e.cells.length))=true) (hd:o.dst=none)
  (hs:S1={S with h:=aR h id (some {ob with es:=ob.es.set i (e.put f v)})}):Out X o a w I σ S S1:=by
 subst hs;have h1:dB w I σ (S.ev x) (a.eval x):=fj (S:=S) F (hx x (by simp[ho,Op.operands]));have h2:dB w I σ (S.ev y) (a.eval y):=fj (S:=S) F (hx y (by simp[ho,Op.operands]));rw[he]at h1;obtain⟨b,of,k,mX,hu⟩:=h1;simp only[aaF,decide_eq_true_eq]at hf;have key: ∃I',Step w I σ S.h S.n w I' σ h S.n/\dB w I' (my ob.eU σ) v (a.eval y):=by
  by_cases hk:Hq.eU=true
  ·rw[if_pos hk]at hg;obtain⟨rfl,rfl⟩:=hg;rw[h0]at gG;simp at gG;subst gG;exact⟨I,Step.refl R _,by simpa[my,hk] using h2⟩
  ·rw[if_neg hk]at hg;obtain⟨I',s,r,sub⟩:=E3 R h2 hg S.n;have:=sub id ob gG;rw[h0]at this;simp at this;subst this;exact⟨I',s,by simpa[my,hk] using r⟩
 obtain⟨I',s,r⟩:=key;obtain⟨w',kn,s'⟩:=Uq T s.rel gG hi r hf.1 hf.2 S.n mX;refine⟨_,w',I',σ,undef,.bad,?_,.inr ⟨rfl,rfl⟩,s.trans s',by simp[St.set,hd],by simp[dB]⟩;simp[execOp,ho,hu,Instr.storeAt,Instr.sureAddr,kn]
theorem wP  (ho:o.op= .nilCheck x) (R:Rel w I σ S.h) (F:jv w I σ S.f a) (hx:oq o)
  (hv:(∃id j f,S.ev x= .ptr id j f)\/(∃cs,S.ev x= .ref cs)\/(∃g p q,S.ev x= .fn g p q)) (hs:S1=S.set o.dst (S.ev x)):Out X o a w I σ S S1:=by
 have h1:dB w I σ (S.ev x) (a.eval x):=fj (S:=S) F (hx x (by simp[ho,Op.operands]));refine Out.pure (u:=a.eval x) R ?_ h1 hs;rcases hv with⟨id,j,f,he⟩|⟨cs,he⟩|⟨g,p,q,he⟩
 ·rw[he]at h1;obtain⟨b,of,k,_,hu⟩:=h1;simp[execOp,ho,hu]
 ·rw[he]at h1;obtain⟨b,of,hu,_⟩:=h1;simp[execOp,ho,hu]
 ·rw[he]at h1;obtain⟨us,vs,hu,_⟩:=h1;simp[execOp,ho,hu]
theorem Ya{op:UnOp}(ho:o.op= .unOp op t x)(R:Rel w I σ S.h)(F:jv w I σ S.f a)(hx:oq o)(hv:unV op (S.ev x)=some v)(hs:S1=S.set o.dst v):Out X o a w I σ S S1:=by
 have h1:dB w I σ (S.ev x) (a.eval x):=fj (S:=S) F (hx x (by simp[ho,Op.operands]));unfold unV at hv;split at hv
 ·rename_i k n he;rw[he]at h1;have hu:=iF h1;simp only[aA]at hv;subst hv;exact Out.pure (u:= .int k (k.wrap (0-n))) R (by simp[execOp,ho,hu,Op.unary,Op.intArith]) (by simp[dB]) hs
 ·rename_i b he;rw[he]at h1;have hu:=tS h1;simp only[aA]at hv;subst hv;exact Out.pure (u:= .bool (!b)) R (by simp[execOp,ho,hu,Op.unary]) (by simp[dB]) hs
 grind
theorem L4 {s d:TypeId}  {k k':IntKind} {n:Int} (ho:o.op= .convert s d x) (T:mo X.P d (X.ti d)) (E4:(X.P.underlying s).isSome=true) (R:Rel w I σ S.h) (F:jv w I σ S.f a) (hx:oq o)
  (hk:(X.ti d).kind=some k) (he:S.ev x= .int k' n) (hs:S1=S.set o.dst (.int k (k.wrap n))):Out X o a w I σ S S1:=by
 have h1:dB w I σ (S.ev x) (a.eval x):=fj (S:=S) F (hx x (by simp[ho,Op.operands]));rw[he]at h1;have hu:=iF h1;obtain⟨e,hd,hb⟩:=T.und;have hde:e= .int k:=by
  cases e<;>simp_all [Aa]
 subst hde;obtain⟨ds,hds⟩:=Option.isSome_iff_exists.1 E4;exact Out.pure (u:= .int k (k.wrap n)) R (by simp[execOp,ho,hu,convert,run_underlying hds,run_underlying hd,Conv.intToInt]) (by simp[dB]) hs
theorem Km {g:FuncId} {p q:Array Operand} (ho:o.op= .makeFunc (.func g) p q) (R:Rel w I σ S.h) (F:jv w I σ S.f a) (hx:oq o)
  (hs:S1=S.set o.dst (.fn g (p.toList.map S.ev) (q.toList.map S.ev))):Out X o a w I σ S S1:=by
 have hl: ∀(xs:Array Operand),(∀x∈xs.toList,x∈o.op.operands.toList)->iN w I σ (xs.toList.map S.ev) (xs.map a.eval).toList:=by
  intro xs hxs;rw[mP];refine⟨by simp,fun j c u hc hu=> ?_⟩;rw[abm]at hc;simp only[Array.toList_map,abm]at hu;cases hj:xs.toList[j]? with
  |none=>grind
  |some y=>
   simp only[hj,abZ,aA]at hc hu;subst hc;subst hu;exact fj (S:=S) F (hx y (hxs y (aaT hj)))
 refine Out.pure (u:= .func (.func g) (p.map a.eval) (q.map a.eval)) R (by simp[execOp,ho,Instr.makeFunc]) ?_ hs;exact⟨_,_,rfl,hl p (by simp[ho,Op.operands];grind),hl q (by simp[ho,Op.operands];grind)⟩
theorem L5(ho:o.op= .extract x i)(R:Rel w I σ S.h)(F:jv w I σ S.f a)(hx:oq o)(he:S.ev x= .dM vs)(hv:vs[i]?=some v)(hs:S1=S.set o.dst v):Out X o a w I σ S S1:=by
 have h1:dB w I σ (S.ev x) (a.eval x):=fj (S:=S) F (hx x (by simp[ho,Op.operands]));rw[he]at h1;obtain⟨us,hu,hr⟩:=h1;rw[mP]at hr;have hi:i<vs.length:=(List.getElem?_eq_some_iff.1 hv).1;have hg:us[i]?=some (us[i]'(by grind)):=by simp
 exact Out.pure (u:=us[i]'(by grind)) R (by simp[execOp,ho,hu,Instr.extract,hg]) (hr.2 i v _ hv (by simp)) hs
end
section
variable {w:World} {I:Nat->Prop} {σ:jt}
theorem sq{s:List UInt8}(h:dB w I σ (.str s) u): ∃x:ByteArray,u= .string x/\x.data.toList=s:=by simpa only[dB] using h
theorem toList_eq(x:ByteArray):x.toList=x.data.toList:=by rw[ByteArray.toList_eq]
theorem Bo(hs:kdB P t kd=true){cs:Array Value}(hj:cs[j]?=some u)(w:World):(Go.part t cs j).run P w= .ok u w:=by
 unfold kdB at hs;have:(isAgg t).run P w= .ok false w:=by
  unfold isAgg;split at hs
  ·rename_i h;rw[Sem.run_bind,run_underlying h];rfl
  ·rename_i h;rw[Sem.run_bind,run_underlying h];rfl
  ·rename_i h;rw[Sem.run_bind,run_underlying h];rfl
  ·grind
 simp[Go.part,this,hj]
theorem Pq{d:Nat}(hs:kdB P t kd=true){x y:V}{v:Value}(hx:dB w I σ x u)(hy:dB w I σ y v)(hr:V.eqv kd x y=some r)(ws:World):
  (Op.equalIn (d+1) t u v).run P ws= .ok r ws:=by
 unfold V.eqv at hr;split at hr
 ·split at hr
  ·rename_i hk;obtain⟨rfl,rfl⟩:=hk;simp only[aA]at hr;subst hr;rw[iF hx,iF hy];unfold kdB at hs;split at hs
   ·rename_i h _;exact run_equalIn_int ws d t _ _ _ _ h
   ·omega
   ·omega
   grind
  grind
 ·split at hr
  ·rename_i hk;subst hk;simp only[aA]at hr;subst hr;rw[tS hx,tS hy];unfold kdB at hs;split at hs
   ·omega
   ·rename_i h _;exact run_equalIn_bool' ws d t _ _ h
   ·omega
   grind
  grind
 ·split at hr
  ·rename_i hk;subst hk;simp only[aA]at hr;subst hr;obtain⟨a,rfl,rfl⟩:=sq hx;obtain⟨b,rfl,rfl⟩:=sq hy;unfold kdB at hs;split at hs
   ·omega
   ·omega
   ·rename_i h _;rw[run_equalIn_string ws d t _ _ h,toList_eq,toList_eq]
   grind
  grind
 grind
theorem Bp{P:Program}{d:Nat}: ∀(fs:List Field) (ks:List Nat) (xs ys:List V) (j:Nat) (us vs:Array Value) (r:Bool),EY P j fs ks=true->zQ ks xs ys=some r->
  fP w I σ xs (us.toList.drop j)->fP w I σ ys (vs.toList.drop j)-> ∀ws,(Op.eqFields (d+1) us vs fs).run P ws= .ok r ws
 | [],ks,xs,ys,j,us,vs,r,hf,he,hx,hy,ws=>by
  cases ks with
  |nil=>
   cases xs with
   |nil=>cases ys with
    |nil=>simp only[zQ,aA]at he;subst he;simp[Op.eqFields]
    |cons _ _=>simp[zQ]at he
   |cons _ _=>simp[zQ]at he
  |cons _ _=>simp[EY]at hf
 |f::fs,ks,xs,ys,j,us,vs,r,hf,he,hx,hy,ws=>by
  cases ks with
  |nil=>simp[EY]at hf
  |cons k ks=>
   cases xs with
   |nil=>simp[zQ]at he
   |cons x xs=>cases ys with
    |nil=>simp[zQ]at he
    |cons y ys=>
     simp only[EY,aaF,bne_iff_ne,beq_iff_eq]at hf;obtain⟨⟨⟨h1,h2⟩,h3⟩,h4⟩:=hf;simp only[zQ]at he;cases e1:V.eqv k x y with
     |none=>grind
     |some p=>cases e2:zQ ks xs ys with
      |none=>grind
      |some q=>
       simp only[e1,e2,aA]at he;obtain⟨u,ru,hu,_,hxu,hxr⟩:=hx;obtain⟨v,rv,hv,_,hyv,hyr⟩:=hy;have gu:us[j]?=some u:=by
        have:=congrArg (fun l:List Value=>l[0]?) hu;simpa[abT] using this
       have gv:vs[j]?=some v:=by
        have:=congrArg (fun l:List Value=>l[0]?) hv;simpa[abT] using this
       have du:us.toList.drop (j+1)=ru:=by
        have:=congrArg (List.drop 1) hu;simpa[aeV] using this
       have dv:vs.toList.drop (j+1)=rv:=by
        have:=congrArg (List.drop 1) hv;simpa[aeV] using this
       have ih:=Bp (d:=d) fs ks xs ys (j+1) us vs q h4 e2 (by grind) (by grind) ws;simp only[Op.eqFields,if_pos h1];rw[h2];simp only[Sem.run_bind,Bo h3 gu,Bo h3 gv,Result.andThen_ok,Pq h3 hxu hyv e1];cases p
       ·simp_all
       grind
end
section
variable {X:Env} {o:Oper} {a:Act} {w:World} {I:Nat->Prop} {σ:jt} {S S1:St}
theorem D2(w:World)(d:Nat)(t e:TypeId)(p q:Option Addr)(h:P.underlying t=some (.pointer e))(hn:p=none\/q=none):
  (Op.equalIn (d+1) t (.pointer p) (.pointer q)).run P w= .ok (p.isNone&&q.isNone) w:=by
 rcases hn with rfl|rfl
 ·simp[Op.equalIn,run_underlying h]
 ·cases p<;>simp[Op.equalIn,run_underlying h]
theorem E5(w:World)(t e:TypeId)(p q:Option Addr)(h:P.underlying t=some (.pointer e))(hn:p=none\/q=none):
  (Op.equal t (.pointer p) (.pointer q)).run P w= .ok (p.isNone&&q.isNone) w:=D2 w 9999 t e p q h hn
theorem D3(w:World)(d:Nat)(t:TypeId)(h:P.underlying t=some (.interface ms)){a b:Bool}{v:Value}(hu:tQ a u)(hv:tQ b v)(hn:(a&&b)=false):
  (Op.equalIn (d+1) t u v).run P w= .ok (a==b) w:=by
 cases a<;>cases b<;>simp only[tQ]at hu hv
 ·subst hu;subst hv;simp[Op.equalIn,run_underlying h]
 ·obtain⟨_,_,rfl⟩:=hv;subst hu;simp[Op.equalIn,run_underlying h]
 ·obtain⟨_,_,rfl⟩:=hu;subst hv;simp[Op.equalIn,run_underlying h]
 grind
theorem Pr(w:World)(t:TypeId)(h:P.underlying t=some (.interface ms)){a b:Bool}{v:Value}(hu:tQ a u)(hv:tQ b v)(hn:(a&&b)=false):
  (Op.equal t u v).run P w= .ok (a==b) w:=D3 w 9999 t h hu hv hn
theorem Yb{wJ:List Nat}(hB:eqB P t ag wJ=true){x y:V}{v:Value}(hx:dB w I σ x u)(hy:dB w I σ y v)(hr:Pd ag wJ x y=some r)(p q:Operand)(hq:wJ=[4]-> ∃z,q= .const z):
  (eqGuard .eql t p q u v).run P w= .ok () w/\(eqGuard .neq t p q u v).run P w= .ok () w/\(binOp .eql t u v).run P w= .ok (.bool r) w/\(binOp .neq t u v).run P w= .ok (.bool (!r)) w:=by
 unfold Pd at hr;split at hr
 ·rename_i xs ys;split at hr
  ·rename_i hag;obtain⟨us,rfl,hcx⟩:=hx;obtain⟨vs,rfl,hcy⟩:=hy;have kC: ∃fs,P.underlying t=some (.struct fs)/\(wJ=[]\/(P.stoodInHeld t=false/\P.eqGuardType P.depth t=false/\EY P 0 fs.toList wJ=true)):=by
    unfold eqB at hB;split at hB
    ·grind
    ·grind
    ·grind
    ·simp[hag.1]at hB;subst hB;cases xs with
     |nil=>simp[zQ]at hr
     |cons x xs=>cases ys with
      |nil=>simp[zQ]at hr
      |cons y ys=>cases x<;>cases y<;>simp[zQ,V.eqv]at hr
    ·grind
    ·grind
   obtain⟨fs,hfs,hc⟩:=kC;rcases hc with h0|⟨h1,h2,h3⟩
   ·grind
   ·have hF:P.fieldsOf t=fs:=by simp[Program.fieldsOf,hfs]
    have he:=Bp (d:=9998) fs.toList wJ xs ys 0 us vs r h3 hr (by simpa using hcx) (by grind) w;have kD:(Op.equalIn 10000 t (.agg us) (.agg vs)).run P w= .ok r w:=by
     rw[run_equalIn_struct w 9999 t us vs (by grind) h1,hF];exact he
    refine⟨run_eqGuard_agg w .eql t p q us vs h2,run_eqGuard_agg w .neq t p q us vs h2,?_,?_⟩
    ·rw[run_eql_struct,kD];rfl
    ·rw[run_neq_struct,kD];rfl
  grind
 ·split at hr
  ·rename_i hk;subst hk;simp only[aA]at hr;subst hr;rw[iF hx,iF hy];refine⟨by rfl,by rfl,by rw[binOp_eql];rfl,by rw[binOp_neq];rfl⟩
  grind
 ·split at hr
  ·rename_i hc;simp only[aA]at hr;subst hr;rw[tS hx,tS hy];have ht:P.underlying t=some .bool:=by
    unfold eqB at hB;split at hB
    ·grind
    ·omega
    ·grind
    ·grind
    ·grind
    ·grind
   refine⟨by rfl,by rfl,?_,?_⟩
   ·simp only[binOp,Sem.run_bind];rw[show Op.equal t (.bool _) (.bool _)=Op.equalIn (9999+1) t (.bool _) (.bool _) from rfl,run_equalIn_bool' w 9999 t _ _ ht];rfl
   ·simp only[binOp,Sem.run_bind];rw[show Op.equal t (.bool _) (.bool _)=Op.equalIn (9999+1) t (.bool _) (.bool _) from rfl,run_equalIn_bool' w 9999 t _ _ ht];rfl
  grind
 ·simp only[aA]at hr;subst hr;obtain⟨a,rfl,rfl⟩:=sq hx;obtain⟨b,rfl,rfl⟩:=sq hy;refine⟨by rfl,by rfl,?_,?_⟩
  ·simp[binOp,Op.stringOp,toList_eq]
  ·simp[binOp,Op.stringOp,toList_eq]
 all_goals first|(cases hr;done)|skip
 all_goals
  split at hr
  case isFalse=>grind
  rename_i hc;simp only[aA]at hr;subst hr
 case h_8=>
  have ht: ∃ms,P.underlying t=some (.interface ms):=by
   unfold eqB at hB;split at hB
   ·grind
   ·grind
   ·grind
   ·grind
   ·grind
   ·grind
  obtain⟨ms,ht⟩:=ht;obtain⟨z,rfl⟩:=hq hc.2.1;rename_i a b;have h3:=hc.2.2;simp only[dB]at hx hy;have hg: ∀op,(eqGuard op t p (.const z) u v).run P w= .ok () w:=fun op=>by
   cases a<;>cases b<;>simp only[tQ]at hx hy
   ·subst hx;subst hy;cases op<;>simp[eqGuard]
   ·obtain⟨_,_,rfl⟩:=hy;cases op<;>simp[eqGuard]
   ·obtain⟨_,_,rfl⟩:=hx;cases op<;>simp[eqGuard]
   grind
  have he:=Pr w t ht hx hy h3;have Ps:(binOp .eql t u v).run P w= .ok (.bool (a==b)) w:=by
   have:binOp .eql t u v=(do pure (.bool (<-Op.equal t u v))):=by
    cases a<;>cases b<;>simp only[tQ]at hx hy
    ·subst hx;rfl
    ·subst hx;rfl
    ·obtain⟨_,_,rfl⟩:=hx;rfl
    ·grind
   rw[this,Sem.run_bind,he];rfl
  have D4:(binOp .neq t u v).run P w= .ok (.bool (!(a==b))) w:=by
   have:binOp .neq t u v=(do pure (.bool (!(<-Op.equal t u v)))):=by
    cases a<;>cases b<;>simp only[tQ]at hx hy
    ·subst hx;rfl
    ·subst hx;rfl
    ·obtain⟨_,_,rfl⟩:=hx;rfl
    ·grind
   rw[this,Sem.run_bind,he];rfl
  grind
 all_goals
  have ht: ∃e,P.underlying t=some (.pointer e):=by
   unfold eqB at hB;split at hB
   ·grind
   ·grind
   ·grind
   ·grind
   ·grind
   ·grind
  obtain⟨e,ht⟩:=ht;first|(obtain⟨b,o,k,_,rfl⟩:=hx)|subst hx
  first|(obtain⟨b,o,k,_,rfl⟩:=hy)|subst hy
  refine⟨by rfl,by rfl,?_,?_⟩
  ·simp only[binOp,Sem.run_bind];rw[E5 w t e _ _ ht (by simp)];rfl
  ·simp only[binOp,Sem.run_bind];rw[E5 w t e _ _ ht (by simp)];rfl
theorem Uv {op:BinOp}    (ho:o.op= .binOp op t x y ty) (hB:op= .eql\/op= .neq->eqB X.P t (X.ti t).agg (X.ti t).wJ=true/\((X.ti t).wJ=[4]-> ∃z,y= .const z)) (R:Rel w I σ S.h) (F:jv w I σ S.f a) (hx:oq o)
  (hv:sP (X.ti t).agg (X.ti t).wJ op (S.ev x) (S.ev y)=some v) (hs:S1=S.set o.dst v):Out X o a w I σ S S1:=by
 have h1:dB w I σ (S.ev x) (a.eval x):=fj (S:=S) F (hx x (by simp[ho,Op.operands]));have h2:dB w I σ (S.ev y) (a.eval y):=fj (S:=S) F (hx y (by simp[ho,Op.operands]));generalize S.ev x=p at h1 hv;generalize S.ev y=q at h2 hv;have ints: ∀(f:IntKind->Int->Int->Option V),Bj p q f=some v->(∀k m n,p= .int k m->q= .int k n->f k m n=some v-> ∃u,(binOp op t (.int k m) (.int k n)).run X.P w= .ok u w/\dB w I σ v u)->Out X o a w I σ S S1:=by
  intro f hf kn;unfold Bj at hf;split at hf
  ·rename_i k m k' n;split at hf
   ·rename_i hk;subst hk;obtain⟨u,hu,hr⟩:=kn k m n rfl rfl hf;refine Out.pure (u:=u) R ?_ hr hs;simp[execOp,ho,iF h1,iF h2,eqGuard_at_int,hu]
   grind
  ·grind
 cases op with
 |eql=>
  simp only[sP]at hv;cases he:Pd (X.ti t).agg (X.ti t).wJ p q with
  |none=>grind
  |some r=>
   simp only[he,aA]at hv;subst hv;have:=Yb (hB (.inl rfl)).1 h1 h2 he x y (hB (.inl rfl)).2;exact Out.pure (u:= .bool r) R (by simp[execOp,ho,this.1,this.2.2.1]) (by simp[dB]) hs
 |neq=>
  simp only[sP]at hv;cases he:Pd (X.ti t).agg (X.ti t).wJ p q with
  |none=>grind
  |some r=>
   simp only[he,aA]at hv;subst hv;have:=Yb (hB (.inr rfl)).1 h1 h2 he x y (hB (.inr rfl)).2;exact Out.pure (u:= .bool (!r)) R (by simp[execOp,ho,this.2.1,this.2.2.2]) (by simp[dB]) hs
 |add=>
  simp only[sP]at hv;split at hv
  ·split at hv
   ·rename_i hle;simp only[aA]at hv;subst hv;obtain⟨b1,e1,rfl⟩:=sq h1;obtain⟨b2,e2,rfl⟩:=sq h2;refine Out.pure (u:= .string (b1++b2)) R ?_ (by exact⟨_,rfl,by simp⟩) hs;have sY: ¬((b1.size+b2.size:Nat):Int)>IntKind.i64.max:=by
     have z1:b1.data.toList.length=b1.size:=abU;have z2:b2.data.toList.length=b2.size:=abU;rw[IntKind.max_i64];rw[z1,z2]at hle;omega
    simp only[execOp,ho,e1,e2,eqGuard_at_string,Sem.run_bind,Sem.run_pure,Result.andThen_ok,binOp,Op.stringOp,if_neg sY]
   grind
  ·exact ints _ hv fun k m n _ _ hf=>⟨.int k (k.wrap (m+n)),by rw[binOp_add];rfl,by simp only[aA]at hf;subst hf;simp[dB]⟩
 |sub=>exact ints _ hv fun k m n _ _ hf=>⟨.int k (k.wrap (m-n)),by rw[binOp_sub];rfl,by simp only[aA]at hf;subst hf;simp[dB]⟩
 |mul=>exact ints _ hv fun k m n _ _ hf=>⟨.int k (k.wrap (m*n)),by rw[binOp_mul];rfl,by simp only[aA]at hf;subst hf;simp[dB]⟩
 |quo=>
  refine ints _ hv fun k m n _ _ hf=> ?_;split at hf
  ·grind
  ·rename_i hn;simp only[aA]at hf;subst hf;exact⟨.int k (k.wrap (m.tdiv n)),by rw[binOp_quo];simp[Op.intDiv,hn],by simp[dB]⟩
 |rem=>
  refine ints _ hv fun k m n _ _ hf=> ?_;split at hf
  ·grind
  ·rename_i hn;simp only[aA]at hf;subst hf;exact⟨.int k (m.tmod n),by rw[binOp_rem];simp[Op.intDiv,hn],by simp[dB]⟩
 |lss=>exact ints _ hv fun k m n _ _ hf=>⟨.bool (decide (m<n)),by rw[binOp_lss];rfl,by simp only[aA]at hf;subst hf;simp[dB]⟩
 |leq=>exact ints _ hv fun k m n _ _ hf=>⟨.bool (decide (m<=n)),by rw[binOp_leq];rfl,by simp only[aA]at hf;subst hf;simp[dB]⟩
 |gtr=>exact ints _ hv fun k m n _ _ hf=>⟨.bool (decide (n<m)),by rw[binOp_gtr];rfl,by simp only[aA]at hf;subst hf;simp[dB]⟩
 |geq=>exact ints _ hv fun k m n _ _ hf=>⟨.bool (decide (n<=m)),by rw[binOp_geq];rfl,by simp only[aA]at hf;subst hf;simp[dB]⟩
 |shl=>
  simp only[sP]at hv;split at hv
  ·rename_i k m k' n;split at hv
   ·grind
   ·rename_i hn;simp only[aA]at hv;subst hv;refine Out.pure (u:= .int k (k.wrap (m*2^ (min n.toNat k.bits)))) R ?_ (by simp[dB]) hs;simp[execOp,ho,iF h1,iF h2,eqGuard_at_int,binOp,Op.shift,hn]
  grind
 |shr=>
  simp only[sP]at hv;split at hv
  ·rename_i k m k' n;split at hv
   ·grind
   ·rename_i hn;simp only[aA]at hv;subst hv;refine Out.pure (u:= .int k (m.fdiv (2^ (min n.toNat k.bits)))) R ?_ (by simp[dB]) hs;simp[execOp,ho,iF h1,iF h2,eqGuard_at_int,binOp,Op.shift,hn]
  grind
 |and=>exact ints _ hv fun k m n _ _ hf=>⟨.int k (bits k .and m n),by rw[binOp_and];rfl,by simp only[aA]at hf;subst hf;simp[dB]⟩
 |or=>exact ints _ hv fun k m n _ _ hf=>⟨.int k (bits k .or m n),by rw[binOp_or];rfl,by simp only[aA]at hf;subst hf;simp[dB]⟩
 |xor=>exact ints _ hv fun k m n _ _ hf=>⟨.int k (bits k .xor m n),by rw[binOp_xor];rfl,by simp only[aA]at hf;subst hf;simp[dB]⟩
 |andNot=>exact ints _ hv fun k m n _ _ hf=>⟨.int k (bits k .andNot m n),by rw[binOp_andNot];rfl,by simp only[aA]at hf;subst hf;simp[dB]⟩
end
end Go.Abs
