/- Part of a proof: engine F1. -/
import Derived.Test.YtdngefmliibcgaaGreatM09
import Derived.Lib.SliceRun
import Derived.Orders
set_option linter.all false
set_option maxRecDepth 20000
set_option maxHeartbeats 20000000
namespace Go.Abs
open Go
variable  {ob:Ob}{Q:Exit->Act->World->Prop}{w w':World}
section
variable {h h' h1 G:bh} {n:Nat}
theorem uF.off(H:uF h G n){id:Nat}(gG:h id=some ob):G id=none:=by
 cases hg:G id with
 |none=>rfl
 |some x=>rw[(H id (by grind)).1]at gG;grind
theorem uF.big(H:uF h G n){id:Nat}(fg:n<=id):G id=none:=by
 cases hg:G id with
 |none=>rfl
 |some x=>have:=(H id (by grind)).2;omega
theorem Kx{id:Nat}(hg:G id=none):o8 h G id=h id:=by unfold o8;rw[hg]
theorem uF.get(H:uF h G n){id:Nat}(gG:h id=some ob):o8 h G id=some ob:=by rw[Kx (H.off gG),gG]
theorem mS{id:Nat}{x:Option Ob}(hg:G id=none):aR (o8 h G) id x=o8 (aR h id x) G:=by
 funext i;unfold o8 aR
 grind
theorem uF.aR(H:uF h G n){id:Nat}{x:Option Ob}(hg:G id=none):uF (aR h id x) G n:=by
 intro i hi;have e:i≠id:=fun e=>by grind
 have:=H i hi
 grind [aR]
theorem uF.sub(H:uF h G n)(hs: ∀i,h i=none->h' i=none):uF h' G n:=fun i hi=>⟨hs i (H i hi).1,(H i hi).2⟩
theorem uF.ax7(H:uF h G n):Sub h (o8 h G):=fun id ob gG=>H.get gG
theorem FD(H:uF h G n){v v':V}(hg:oY h v=some (v',h1)):oY (o8 h G) v=some (v',o8 h1 G)/\uF h1 G n:=by
 unfold oY at hg⊢;split at hg
 ·rename_i id s l;cases gG:h id with
  |none=>grind
  |some ob=>
   simp only[gG]at hg;simp only[H.get gG];split at hg
   ·rename_i hc;rw[if_pos hc];obtain⟨rfl,rfl⟩:=hg;have:=H.off gG;exact⟨by rw[mS this],H.aR this⟩
   grind
 grind
theorem FE: ∀{cs rS:List V} {h h1:bh},uF h G n->fY h cs=some (rS,h1)->fY (o8 h G) cs=some (rS,o8 h1 G)/\uF h1 G n
 | [],rS,h,h1,H,hg=>by
  obtain⟨rfl,rfl⟩:=hg;exact⟨rfl,H⟩
 |c::cs,rS,h,h1,H,hg=>by
  simp only[fY]at hg⊢;split at hg
  case h_2=>grind
  rename_i c' h2 hc;obtain⟨e1,H1⟩:=FD H hc;split at hg
  case h_2=>grind
  rename_i cs2 h3 Az;obtain⟨e2,H2⟩:=FE H1 Az
  grind
theorem Cy(H:uF h G n){v v':V}(hg:qu h v=some (v',h1)):qu (o8 h G) v=some (v',o8 h1 G)/\uF h1 G n:=by
 unfold qu at hg⊢;split at hg
 ·split at hg
  case h_2=>grind
  rename_i rS h2 hl;obtain⟨e,H1⟩:=FE H hl
  grind
 ·exact FD H hg
theorem FF: ∀{ps xW:List (Nat×V)} {h h1:bh},uF h G n->mL h ps=some (xW,h1)->mL (o8 h G) ps=some (xW,o8 h1 G)/\uF h1 G n
 | [],xW,h,h1,H,hg=>by
  obtain⟨rfl,rfl⟩:=hg;exact⟨rfl,H⟩
 |(i,c)::cs,xW,h,h1,H,hg=>by
  simp only[mL]at hg⊢;split at hg
  case h_2=>grind
  rename_i c' h2 hc;obtain⟨e1,H1⟩:=Cy H hc;split at hg
  case h_2=>grind
  rename_i cs2 h3 Az;obtain⟨e2,H2⟩:=FF H1 Az
  grind
theorem AF: ∀{ps xW:List V} {h h1:bh},uF h G n->rL h ps=some (xW,h1)->rL (o8 h G) ps=some (xW,o8 h1 G)/\uF h1 G n
 | [],xW,h,h1,H,hg=>by
  obtain⟨rfl,rfl⟩:=hg;exact⟨rfl,H⟩
 |c::cs,xW,h,h1,H,hg=>by
  simp only[rL]at hg⊢;split at hg
  case h_2=>grind
  rename_i c' h2 hc;obtain⟨e1,H1⟩:=Cy H hc;split at hg
  case h_2=>grind
  rename_i cs2 h3 Az;obtain⟨e2,H2⟩:=AF H1 Az
  grind
theorem wU(H:uF h G n){v:V}{r:List V×Bool}(he:elems h v=some r):elems (o8 h G) v=some r:=by
 unfold elems at he⊢;split at he
 ·omega
 ·rename_i id s l;cases gG:h id with
  |none=>grind
  |some ob=>simp only[gG]at he;simp only[H.get gG];omega
 ·omega
 omega
theorem AG: ∀{l:List (Option Nat)} {h:bh},uF h G n->(∀i,some i∈l->G i=none)->gq (o8 h G) l=o8 (gq h l) G/\uF (gq h l) G n
 | [],h,H,_=>⟨rfl,H⟩
 |none::l,h,H,hl=>AG (l:=l) H fun i hi=>hl i (acY _ hi)
 |some i::l,h,H,hl=>by
  obtain⟨e,H1⟩:=AG (l:=l) H fun i hi=>hl i (acY _ hi);have hg:=hl i (acQ ..);simp only[gq];exact⟨by rw[e,mS hg],H1.aR hg⟩
theorem Cz{X:Env}{kp:TypeId->Bool}{R:V}: ∀{m:Mask} {k:Nat} {h:bh},(∀i,k<=i->G i=none)->xO X kp R k m (o8 h G)=o8 (xO X kp R k m h) G
 | [],k,h,_=>rfl
 |q::m,k,h,hk=>by
  simp only[xO];rw[Cz (fun i hi=>hk i (by omega)),mS (hk k (aaI _))]
theorem PN{X:Env}{hx:bh}(H:uF h G n){t:TypeId}{c:V}(hr:(rowAt X h hx t c).isSome=true):rowAt X (o8 h G) hx t c=rowAt X h hx t c/\ ∀i,c.src=some i->G i=none:=by
 unfold rowAt at hr⊢;split at hr
 ·exact⟨rfl,fun i hi=>by simp[V.src]at hi⟩
 ·rename_i id s l;cases gG:h id with
  |none=>grind
  |some ob=>
   simp only[H.get gG];exact⟨trivial,fun i hi=>by simp only[V.src,aA]at hi;subst hi;exact H.off gG⟩
 grind
theorem AH{F F':Nat->V->V}: ∀{cs:List V} {k:Nat},(∀j c,cs[j]?=some c->F (k+j) c=F' (k+j) c)->rJ F k cs=rJ F' k cs
 | [],k,_=>rfl
 |c::cs,k,hc=>by
  have e1:F k c=F' k c:=by simpa using hc 0 c (by simp)
  have e2:rJ F (k+1) cs=rJ F' (k+1) cs:=AH fun j c' hj=>by
   have:=hc (j+1) c' (by grind)
   grind
  simp only[rJ,e1,e2]
theorem FG{F F':Nat->V->V}{v:V}(hv: ∀j,F j (v.cells.getD j .bad)=F' j (v.cells.getD j .bad)):uD F v=uD F' v:=by
 by_cases h: ∃cs,v= .agg cs
 ·obtain⟨cs,rfl⟩:=h;rw[yh,yh,AH fun j c hj=> ?_];have:=hv j;simpa[V.cells,aaQ,hj] using this
 ·have h': ∀cs,v≠ .agg cs:=fun cs e=>h ⟨cs,e⟩;rw[re F h',re F' h'];have:=hv 0;rw[mH h']at this
  grind
theorem PO{F F':Nat->Nat->V->V}{v:V}(hv: ∀i j,F i j (v.cellAt i j)=F' i j (v.cellAt i j)):u9 F v=u9 F' v:=by
 by_cases h: ∃cs,v= .dM cs
 ·obtain⟨cs,rfl⟩:=h;rw[yi,yi,AH fun i c hi=> ?_];refine FG fun j=> ?_;have:=hv i j;simp only[V.cellAt,aaQ,hi,abR]at this
  grind
 ·have h': ∀cs,v≠ .dM cs:=fun cs e=>h ⟨cs,e⟩;rw[tY F h',tY F' h'];refine FG fun j=> ?_;have:=hv 0 j;have e:v.cellAt 0 j=v.cells.getD j .bad:=by
   cases v with
   |dM cs=>grind
   |_=>rfl
  grind
theorem UQ{X:Env}{hx:bh}(H:uF h G n){v R:V}{m:Mask}(hr:Bl X h hx v m=some R):Bl X (o8 h G) hx v m=some R/\ ∀i,some i∈iD v m->G i=none:=by
 unfold Bl at hr⊢;split at hr
 case isFalse=>grind
 rename_i hc;simp only[aaF]at hc;have m8: ∀q∈m,rowAt X (o8 h G) hx q.2.2 (v.cellAt q.1 q.2.1)=rowAt X h hx q.2.2 (v.cellAt q.1 q.2.1)/\ ∀i,(v.cellAt q.1 q.2.1).src=some i->G i=none:=fun q hq=>PN H (List.all_eq_true.1 hc.2 q hq);have D7:m.all (fun q=>(rowAt X (o8 h G) hx q.2.2 (v.cellAt q.1 q.2.1)).isSome)=true:=by
  rw[aaP];intro q hq;rw[(m8 q hq).1];exact List.all_eq_true.1 hc.2 q hq
 refine⟨?_,fun i hi=> ?_⟩
 ·simp only[hc.1,D7,Bool.and_self,if_true];rw[<-hr];congr 1;refine PO fun i j=> ?_;unfold mO;cases hm:mY 0 m i j with
  |none=>rfl
  |some p=>
   obtain⟨_,hq⟩:=uJ hm
   grind
 ·obtain⟨q,hq,he⟩:=List.mem_map.1 hi
  grind
end
section
variable {X:Env} {C:jm} {bY:FuncId} {dst:Option Nat} {g:FuncId} {args:List V} {S S1:St} {G:bh}
theorem pZ(S:St)(d:Option Nat)(v:V)(h:bh):({S.set d v with h:=h}:St)=({S with h:=h}:St).set d v:=by cases d<;>rfl
theorem ah8(H:uF S.h G S.n)(he:vd X C bY dst g args S=some S1):vd X C bY dst g args {S with h:=o8 S.h G}=some {S1 with h:=o8 S1.h G}:=by
 unfold vd at he⊢;split at he
 case h_2=>grind
 split at he
 case h_2=>grind
 rename_i ob gG;split at he
 case h_2=>grind
 rename_i e YD;split at he
 case isFalse=>grind
 rename_i hk;split at he
 case h_2=>grind
 rename_i R hR;split at he
 case h_2=>grind
 rename_i bwf h1 hg;split at he
 case h_2=>grind
 rename_i v h n hc;split at he
 case h_2=>grind
 rename_i kk r rs Cv;simp only[aA]at he;subst he;have g0:=H.off gG;have H1:=H.aR (x:=none) g0;obtain⟨e2,E4⟩:=UQ H1 hR;obtain⟨e3,H3⟩:=AG H1 E4;obtain⟨e4,H4⟩:=AF H3 hg;simp only[H.get gG,YD,hk,if_true,mS g0,e2,e3,e4,hc,Cv];rw[pZ,fm,Cz (fun i hi=>H.big hi)]
theorem UR(H:uF S.h G S.n)(he:mZ X C bY dst g args S=some S1):mZ X C bY dst g args {S with h:=o8 S.h G}=some {S1 with h:=o8 S1.h G}:=by
 unfold mZ at he⊢;split at he
 case h_2=>grind
 rename_i bwf h1 hg;split at he
 case h_2=>grind
 rename_i v h n hc;split at he
 case h_2=>grind
 rename_i r hR;simp only[aA]at he;subst he;obtain⟨e4,H4⟩:=AF H hg;simp only[e4,hc,hR];rw[pZ,fm,Cz (fun i hi=>H.big hi)]
theorem US(hO:o9 X C)(H:uF S.h G S.n)(he:gU X C bY dst g args S=some S1):gU X C bY dst g args {S with h:=o8 S.h G}=some {S1 with h:=o8 S1.h G}:=by
 unfold gU at he⊢;split at he
 ·split at he
  case h_2=>grind
  split at he
  case h_2=>grind
  rename_i es kx tq;split at he
  ·grind
  rename_i nn;simp only[aA]at he;subst he;simp only[wU H tq];rw[if_neg nn,pZ,fm];simp only[St.new,mS (H.big (aaI _))]
 ·by_cases hf:(X.hZ g&& !X.low g)=true
  ·simp only[hf,if_true]at he⊢;split at he
   case h_2=>grind
   rename_i v h n hc;simp only[aA]at he;subst he;have D8:X.low g=false:=by simp only[aaF,aaZ]at hf;exact hf.2
   simp only[hO _ _ _ _ _ _ _ G D8 H hc];rw[pZ,fm]
  simp only[hf,aaM,if_false]at he⊢;split at he
  ·rename_i Bg;rw[if_pos Bg];exact ah8 H he
  rename_i Bg;rw[if_neg Bg];split at he
  ·rename_i Hn;rw[if_pos Hn];exact UR H he
  rename_i Hn;rw[if_neg Hn];split at he
  case h_2=>grind
  rename_i bwf has;have ax8:cF (args.map (cx (o8 S.h G) depth))=some bwf:=ym H.ax7 has;split at he
  ·rename_i pn;split at he
   case h_2=>grind
   rename_i v h n hc;split at he
   ·grind
   rename_i rV;simp only[aA]at he;subst he;have a7a:(fun id=>if id<S.n then o8 S.h G id else if args.any V.xN=true then kL (h id) else h id)=o8 (fun id=>if id<S.n then S.h id else if args.any V.xN=true then kL (h id) else h id) G:=by
    funext i;unfold o8;by_cases hi:i<S.n
    ·grind
    ·simp only[hi,if_false,H.big (adU hi)]
   simp only[ax8,pn,if_true,hc];rw[if_neg rV,pZ,fm,a7a]
  ·rename_i pn;split at he
   case h_2=>grind
   rename_i v h n hc;split at he
   case h_2=>grind
   rename_i v' Kt;split at he
   ·grind
   rename_i nn;simp only[aA]at he;subst he;simp only[ax8,pn,if_false,aaM,hc,Kt];rw[if_neg nn,pZ,fm]
theorem UT{o:Oper}{ρ:Operand->V}{h h1:bh}{n n1 k:Nat}{v:V}(H:uF h G k)(hn:G n=none)(hc:cls X bY o=3)(he:cI X bY o ρ h n=some (v,h1,n1)):cI X bY o ρ (o8 h G) n=some (v,o8 h1 G,n1):=by
 obtain⟨d,op,ty,pos,after,guard⟩:=o;cases op with
 |store t a x=>
  simp only[cI]at he⊢;split at he
  case h_2=>grind
  rename_i id i f ha;cases gG:h id with
  |none=>grind
  |some ob=>
   simp only[gG]at he;simp only[H.get gG];cases hkp:ob.eU with
   |true=>
    simp only[hkp,if_true]at he⊢;simp only[gG]at he;simp only[H.get gG];split at he
    case h_2=>grind
    split at he
    case isFalse=>grind
    rename_i s7;rw[if_pos s7];obtain⟨rfl,rfl,rfl⟩:=he;rw[mS (H.off gG)]
   |false=>
    simp only[hkp,if_false,aaM]at he⊢;split at he
    case h_2=>grind
    rename_i v' h2 hg;obtain⟨e1,H1⟩:=Cy H hg;simp only[e1];cases ax9:h2 id with
    |none=>grind
    |some ob2=>
     simp only[ax9]at he;simp only[H1.get ax9];split at he
     case h_2=>grind
     split at he
     case isFalse=>grind
     rename_i s7;rw[if_pos s7];obtain⟨rfl,rfl,rfl⟩:=he;rw[mS (H.off gG)]
 |buildSlice t m ps=>
  simp only[cI]at he⊢;split at he
  ·rename_i hk;simp only[cls,hk,if_true]at hc;omega
  ·rename_i hk;rw[if_neg hk];split at he
   ·rename_i wO;rw[if_pos wO];split at he
    case h_2=>grind
    rename_i l h2 hg;split at he
    case h_2=>grind
    grind
   rename_i wO;rw[if_neg wO];split at he
   case h_2=>grind
   rename_i l h2 hg;obtain⟨e1,H1⟩:=FF H hg;simp only[e1];split at he
   case h_2=>grind
   split at he
   ·rename_i pn;rw[if_pos pn];obtain⟨rfl,rfl,rfl⟩:=he;rw[mS hn]
   grind
 |call c=>
  obtain⟨UF,args,mM⟩:=c;cases UF with
  |value x=>simp[cI]at he
  |builtin b=>
   cases b with
   |append=>
    simp only[cI]at he⊢;split at he
    case h_2=>grind
    rename_i s x jK;split at he
    case h_2=>grind
    rename_i es kb xs kx h5 h6;simp only[wU H h5,wU H h6];split at he
    ·grind
    rename_i Er;rw[if_neg Er];split at he
    case isFalse=>grind
    rename_i D7;rw[if_pos D7];split at he
    ·obtain⟨rfl,rfl,rfl⟩:=he;rw[mS hn]
    ·grind
    ·rename_i id _ _;cases gG:h id with
     |none=>grind
     |some ob=>
      simp only[gG]at he;simp only[H.get gG];split at he
      case isFalse=>grind
      rename_i OZ;rw[if_pos OZ];obtain⟨rfl,rfl,rfl⟩:=he;rw[mS (H.off gG),mS hn]
    grind
   |copy=>
    simp only[cI]at he⊢;split at he
    case h_2=>grind
    split at he
    case h_2=>grind
    rename_i ob xs kx h5 h6;simp only[H.get h5,wU H h6];split at he
    ·grind
    rename_i Er;rw[if_neg Er];split at he
    case isFalse=>grind
    rename_i D7;rw[if_pos D7];obtain⟨rfl,rfl,rfl⟩:=he;rw[mS (H.off h5)]
   |len|min|max=>exact absurd (show(0:Nat)=3 from hc) (by decide)
   |_=>simp[cI]at he
  |_=>simp[cI]at he
 |convert u0 u1 x0=>simp only[cls]at hc;grind
 |slice t x lo hi mx=>
  simp only[cls]at hc;split at hc
  case isFalse=>omega
  rename_i har;simp only[cI]at he⊢;split at he
  case isFalse=>grind
  rename_i wQ;rw[if_pos wQ];have OS: ∀{z:V},ρ x=z->z.Bk=false->False:=fun{z} e hz=>by grind
  cases hx:ρ x with
  |ptr id i f=>
   simp only[hx]at he⊢;cases i with
   |succ i=>grind
   |zero=>
   cases f with
   |succ f=>grind
   |zero=>
   simp only at he⊢;cases gG:h id with
   |none=>grind
   |some ob=>
    rw[gG]at he;rw[H.get gG];split at he
    case h_2=>grind
    rename_i m oK ham e0;simp only[aA]at e0;split at he
    case h_2=>grind
    split at he
    case isFalse=>grind
    rename_i s7;obtain⟨rfl,rfl,rfl⟩:=he;rw[if_pos s7,mS (H.off gG)]
  |_=>exact(OS hx rfl).elim
 |move|assign|pick|build|nilCheck|binOp|unOp|makeFunc|fieldAddr|index|field|extract=>exact absurd (show(0:Nat)=3 from hc) (by decide)
 |load|indexAddr=>exact absurd (show(1:Nat)=3 from hc) (by decide)
 |alloc|box|makeSlice=>exact absurd (show(2:Nat)=3 from hc) (by decide)
 |_=>simp[cI]at he
theorem FH{o:Oper}{S:St}{h h1:bh}{n n1 k:Nat}{v:V}(H:uF h G k)(hn:G n=none)(kC: ∀x args mM,o.op≠ .call ⟨.value x,args,mM⟩)(he:cI X bY o S.ev h n=some (v,h1,n1)):cI X bY o S.ev (o8 h G) n=some (v,o8 h1 G,n1):=by
 have hle:cls X bY o=0\/cls X bY o=1\/cls X bY o=2\/cls X bY o=3:=by
  unfold cls;repeat' split
  all_goals simp
 rcases hle with hc|hc|hc|hc
 ·obtain⟨e,hh⟩:=core0 (fun _=>rfl) hc he
  grind
 ·obtain⟨e,hh⟩:=YK hc kC he;rw[e];have h2:=hh h n (fun _ _ x=>x);rw[he]at h2;simp only[aA,bM,true_and]at h2;rw[h2.2];exact hh _ _ H.ax7
 ·obtain⟨ob,e,hh⟩:=am8 hc he;have h2:=hh h;rw[he]at h2;simp only[aA,bM,true_and]at h2;rw[e,h2.2,hh,mS hn]
 ·exact UT H hn hc he
theorem CA(hO:o9 X C){n0 j:Nat}{o:Oper}(H:uF S.h G S.n)(hn:G (n0+j)=none)(he:fu X C bY n0 j o S=some S1):fu X C bY n0 j o {S with h:=o8 S.h G}=some {S1 with h:=o8 S1.h G}:=by
 unfold fu at he⊢;split at he
 ·have Ci:({S with h:=o8 S.h G}:St).ev=S.ev:=by funext y;cases y<;>rfl
  rw[Ci];split at he
  case h_2=>grind
  exact US hO H he
 ·rename_i kC;have Ci:({S with h:=o8 S.h G}:St).ev=S.ev:=by funext y;cases y<;>rfl
  rw[Ci];split at he
  case h_2=>grind
  rename_i v h1 n1 aya;simp only[aA]at he;subst he;simp only[FH H hn kC aya];rw[pZ,fm]
theorem PQ(hO:o9 X C){da:List (Option Nat)}{n0 j:Nat}{o:Oper}(H:uF S.h G S.n)(hn:G (n0+j)=none)(he:stepG X C bY da n0 j o S=some S1):stepG X C bY da n0 j o {S with h:=o8 S.h G}=some {S1 with h:=o8 S1.h G}:=by
 unfold stepG at he⊢;split at he
 ·exact CA hO H hn he
 ·split at he
  case h_2=>grind
  split at he
  ·rename_i b hb;simp only[hb];split at he
   ·rename_i YW;rw[if_pos YW];exact CA hO H hn he
   ·rename_i YW;rw[if_neg YW];simp only[aA]at he;subst he;rw[pZ,fm]
  ·rename_i hb;simp only[hb];simp only[aA]at he;subst he;rw[pZ,fm]
  grind
theorem BB(hO:o9 X C)(hN:rh X C){da:List (Option Nat)}{n0:Nat}: ∀{l:List Oper} {k:Nat} {S S1:St},uF S.h G n0->n0<=S.n->gM X C bY da n0 k l S=some S1->gM X C bY da n0 k l {S with h:=o8 S.h G}=some {S1 with h:=o8 S1.h G}
 | [],k,S,S1,H,hn,he=>by
  simp only[gM,aA]at he⊢
  grind
 |o::l,k,S,S1,H,hn,he=>by
  have hG:G (n0+k)=none:=H.big (by omega);have H0:uF S.h G S.n:=fun i hi=>⟨(H i hi).1,by have:=(H i hi).2;omega⟩;have two: ∀{S2:St},fu X C bY n0 k o S=some S2->gM X C bY da n0 (k+1) l S2=some S1->fu X C bY n0 k o {S with h:=o8 S.h G}=some {S2 with h:=o8 S2.h G}/\gM X C bY da n0 (k+1) l {S2 with h:=o8 S2.h G}=some {S1 with h:=o8 S1.h G}:=fun{S2} h1 h2=>by
   obtain⟨a1,a2⟩:=zw hN h1;exact⟨CA hO H0 hG h1,BB hO hN (fun i hi=>⟨a2 i (by grind) (by have:=(H i hi).2;omega) (H i hi).1,(H i hi).2⟩) (by omega) h2⟩
  have skip:gM X C bY da n0 (k+1) l (S.set o.dst (.dM []))=some S1->gM X C bY da n0 (k+1) l (({S with h:=o8 S.h G}:St).set o.dst (.dM []))=some {S1 with h:=o8 S1.h G}:=fun h3=>by
   have:=BB hO hN (S:=S.set o.dst (.dM [])) (by rw[fm];exact H) (by rw[gZ];omega) h3;rw[pZ,fm]at this;omega
  simp only[gM]at he⊢;split at he
  ·grind
  ·split at he
   case h_2=>grind
   split at he
   ·grind
   ·grind
   grind
theorem My(hO:o9 X C)(hN:rh X C){ops:List Oper}{n0:Nat}{S0:St}{l:List (Nat×Nat)}(H:uF S0.h G n0)(hn:n0<=S0.n)(hs:lA X C bY ops n0 S0 S1 l):
  lA X C bY ops n0 {S0 with h:=o8 S0.h G} {S1 with h:=o8 S1.h G} l:=by
 intro q hq;rcases hs q hq with⟨o,h1,h2⟩|⟨o,T,v,h1,h2,h3,h4⟩
 ·exact .inl ⟨o,h1,h2⟩
 ·have hT:=Fz hN h2;refine .inr ⟨o,{T with h:=o8 T.h G},v,h1,BB hO hN H hn h2,?_,h4⟩;have HT:uF T.h G n0:=fun i hi=>⟨hT.2 i (by have:=(H i hi).2;omega) (by have:=(H i hi).2;omega) (H i hi).1,(H i hi).2⟩;refine FH (S:=S1) HT (HT.big (by omega)) (fun x args mM e=> ?_) h3;obtain⟨dst,op,ty,pos,after,guard⟩:=o;subst e;simp[cI]at h3
end
def YX(X:Env)(E:Ev):Prop:= ∀f c S e S1 G,X.low f=false->uF S.h G S.n->E f c S=some (e,S1)->E f c {S with h:=o8 S.h G}=some (e,{S1 with h:=o8 S1.h G})
def AI{α β:Type}{f g:α->Option β}: ∀(l:List α) {r:List β},cF (l.map f)=some r->(∀x y,f x=some y->g x=some y)->cF (l.map g)=some r
 | [],r,h,_=>h
 |a::l,r,h,hg=>by
  simp only[aaU]at h⊢;cases ha:f a with
  |none=>rw[ha]at h;simp[cF]at h
  |some b=>
   rw[ha]at h;rw[hg a b ha];simp only[cF]at h⊢;split at h
   case h_2=>cases h
   rename_i l' Ac;rw[AI l Ac hg];exact h
def Ag{X:Env}{E:Ev}(hE:YX X E)(hN1: ∀f c S e S1,X.low f=false->E f c S=some (e,S1)-> ∀id,id<S.n->S.h id=none->S1.h id=none):o9 X (dA X E):=by
 intro g args h k v h' k' G hl H hc;unfold dA at hc⊢;have Kd:X.oW g=none:=by
  cases Kd:X.oW g with
  |none=>rfl
  |some pr=>grind
 simp only[Kd]at hc⊢;split at hc
 case h_2=>grind
 rename_i fn hf;split at hc
 case h_2=>grind
 rename_i b hb;cases he:E g b ⟨oN args,h,k⟩ with
 |none=>simp[he,vQ]at hc
 |some x=>
  obtain⟨e,S1⟩:=x;have h1:=hE _ _ ⟨oN args,h,k⟩ _ _ G hl H he;have Aw: ∀id ob,S1.h id=some ob->o8 S1.h G id=some ob:=fun id ob gG=>by
   cases hg:G id with
   |none=>rw[Kx hg,gG]
   |some x=>
    have h3:=H id (by grind);have h4:=hN1 _ _ _ _ _ hl he id h3.2 h3.1
    grind
  have PR: ∀{v:V},nm X fn.results.toList S1=some v->nm X fn.results.toList {S1 with h:=o8 S1.h G}=some v:=fun{v} hr=>by
   unfold nm at hr⊢;split at hr
   ·rename_i v1 h2;rw[AI _ h2 fun x y hxy=> ?_]
    ·omega
    ·cases x with
     |tmp t=>omega
     |cell a t=>
      grind
   ·rename_i vs hvs h2;rw[AI _ h2 fun x y hxy=> ?_]
    ·grind
    ·cases x with
     |tmp t=>omega
     |cell a t=>
      grind
   grind
  rw[he]at hc;rw[h1];cases e with
  |exit i=>simp[vQ]at hc
  |normal|ret=>
   simp only[vQ]at hc⊢
   grind
def Mz{X:Env}(hN:vg X)(n:Nat): ∀f c S e S1,X.low f=false->tp X n f c S=some (e,S1)-> ∀id,id<S.n->S.h id=none->S1.h id=none:=fun f c S e S1 hl he id h1 h2=>
 (yo hN n f c S e S1 S.n he (aaI _) (fun h=>by grind)).2 id h1 h2
def MA{X:Env}(hN:vg X): ∀n,YX X (tp X n)
 |0=>fun f c S e S1 G _ _ he=>by simp[tp]at he
 |n+1=>by
  have ih:=MA hN n;have hO:=Ag (X:=X) ih (Mz hN n);have hC:=vh (X:=X) (yo hN n);intro f c S e S1 G hl H he;have OS: ∀key,X.norm f key=none:=fun key=>by
   cases hk:X.norm f key with
   |none=>rfl
   |some N=>have:=(hN f key N hk).2.1;grind
  have hn: ∀key (S:St),oR X f key S=some S:=fun key S=>by unfold oR;grind
  have news: ∀{c:Code} {S S1:St} {e:Ex},tp X n f c S=some (e,S1)->uF S.h G S.n->uF S1.h G S1.n:=fun{c S S1 e} h1 h2=>by
   have h3:=yo hN n f c S e S1 S.n h1 (aaI _) (fun h=>by grind);exact fun i hi=>⟨h3.2 i (h2 i hi).2 (h2 i hi).1,by have:=(h2 i hi).2;omega⟩
  rw[tp]at he⊢;cases c with
  |skip|exit _|ret=>
   simp only[ki,aA,bM]at he⊢
   grind
  |region id ops d=>
   simp only[ki,hn]at he⊢;split at he
   case h_2=>grind
   rename_i S2 Ci;split at he
   case isFalse=>grind
   rename_i kD;obtain⟨rfl,rfl⟩:=he;have bhk:=BB hO hC (S:={S with n:=S.n+ops.size}) H (by simp) Ci;have YY:=My hO hC (S0:={S with n:=S.n+ops.size}) H (by simp) kD
   grind
  |seq x y=>
   simp only[ki]at he⊢;cases hx:tp X n f x S with
   |none=>grind
   |some z=>
    obtain⟨e2,S2⟩:=z;rw[hx]at he;rw[ih _ _ _ _ _ G hl H hx];cases e2 with
    |normal=>exact ih _ _ _ _ _ G hl (news hx H) he
    |exit i|ret=>
     grind
  |cond x a b=>
   simp only[ki]at he⊢;have Ci:({S with h:=o8 S.h G}:St).ev x=S.ev x:=by cases x<;>rfl
   rw[Ci];split at he
   ·split at he
    ·rename_i hb;rw[if_pos hb];exact ih _ _ _ _ _ G hl H he
    ·rename_i hb;rw[if_neg hb];exact ih _ _ _ _ _ G hl H he
   grind
  |block i b=>
   simp only[ki]at he⊢;cases hx:tp X n f b S with
   |none=>grind
   |some z=>
    obtain⟨e2,S2⟩:=z;rw[hx]at he;rw[ih _ _ _ _ _ G hl H hx]
    grind
  |loop b=>
   simp only[ki,hn]at he⊢;cases hx:tp X n f b S with
   |none=>grind
   |some z=>
    obtain⟨e2,S2⟩:=z;rw[hx]at he;rw[ih _ _ _ _ _ G hl H hx];cases e2 with
    |normal=>exact ih _ _ _ _ _ G hl (news hx H) he
    |exit i|ret=>
     grind
  |_=>simp[ki]at he
def YZ{X:Env}(hN:vg X)(n:Nat):o9 X (dA X (tp X n)):=Ag (MA hN n) (Mz hN n)
def Y0(L:List Oper):List (List Nat):=
 L.foldl (fun acc o=>acc++ [((o.after.toList.filter (Region.binds .any)).flatMap fun e=>e.on::acc.getD e.on []).eraseDups]) []
def wr(cl:List Nat)(p:Nat):Bool:=cl.getD p 0==3
def anb(cl:List Nat)(B:List (List Nat))(j p:Nat):Bool:=
 (List.range cl.length).all fun w=> !wr cl w||((!(B.getD j []).contains w||decide (w<p))&& (!(B.getD w []).contains j||decide (p<=w)))
def ayb(cl:List Nat)(B:List (List Nat))(j p:Nat):Bool:=
 decide (p<=j)&& (List.range cl.length).all fun w=>(!wr cl w||(decide (w<j)==decide (w<p)))&& (!(cl.getD w 0==2&&decide (p<=w)&&decide (w<j))||(B.getD j []).contains w)
def lk(X:Env)(bY:FuncId)(id:Nat)(ops:Array Oper):Bool:=
 let L:=ops.toList;let B:=Y0 L;let cl:=L.map (cls X bY);let ds:=L.map (·.dst)
 X.P.follows .mixedOrders&&
 (List.range L.length).all fun j=>
  match L[j]? with
  |none=>true
  |some o=>
   let bj:=B.getD j []
   (o.after.toList.all fun e=> !Region.binds .any e||decide (e.on<j))&&
   (bj.all fun i=>decide (i<j)&&o.after.toList.any fun e=>Region.binds .any e&& (e.on==i||(B.getD e.on []).contains i))&&
   ((List.range j).all fun i=>(ds.getD i none==none||ds.getD i none !=o.dst)&&
    (!(wr cl j&&decide (2<=cl.getD i 0))||bj.contains i))&&
   ((o.looksAt ops).all fun t=>(List.range L.length).all fun k=>ds.getD k none !=some t||bj.contains k||((B.getD k []).contains j&& !(X.sX bY id).any fun q=>q.1==j))&&
   (!(cl.getD j 0==1)||(List.range (L.length+1)).all fun p=> !(p==0||wr cl (p-1))|| !anb cl B j p||ayb cl B j p||(X.sX bY id).contains (j,p))
structure anc (X:Env) (bY:FuncId) (id:Nat) (ops:Array Oper) (B:Nat->List Nat):Prop where
 mixed:X.P.follows .mixedOrders=true
 a7b: ∀j o e,ops.toList[j]?=some o->e∈o.after->Region.binds .any e=true->e.on<j
 lt: ∀j i,j<ops.size->i∈B j->i<j
 bef: ∀j o i,ops.toList[j]?=some o->i∈B j-> ∃e∈o.after,Region.binds .any e=true/\(e.on=i\/i∈B e.on)
 dst: ∀(i j:Nat) oi oj t,i<j->ops.toList[i]?=some oi->ops.toList[j]?=some oj->oi.dst=some t->oj.dst≠some t
 looks: ∀(j k:Nat) o ok t,ops.toList[j]?=some o->ops.toList[k]?=some ok->ok.dst=some t->t∈o.looksAt ops->k∈B j\/(j∈B k/\ ∀p,(j,p)∉X.sX bY id)
 ww: ∀(i j:Nat) oi oj,i<j->ops.toList[i]?=some oi->ops.toList[j]?=some oj->cls X bY oj=3->2<=cls X bY oi->i∈B j
 reads: ∀(j p:Nat) o,ops.toList[j]?=some o->cls X bY o=1->p<=ops.size->(p=0\/ ∃ow,ops.toList[p-1]?=some ow/\cls X bY ow=3)->
  (∀(w:Nat) ow,ops.toList[w]?=some ow->cls X bY ow=3->(w∈B j->w<p)/\(j∈B w->p<=w))->
  (p<=j/\ ∀(w:Nat) ow,ops.toList[w]?=some ow->(cls X bY ow=3->(w<j↔w<p))/\(cls X bY ow=2->p<=w->w<j->w∈B j))\/(j,p)∈X.sX bY id
def CB{X:Env}{bY:FuncId}{L:List Oper}{j:Nat}{o:Oper}(h:L[j]?=some o):(L.map (cls X bY)).getD j 0=cls X bY o:=by grind
def Y1{L:List Oper}{j:Nat}{o:Oper}(h:L[j]?=some o):(L.map (·.dst)).getD j none=o.dst:=by grind
def PS{X:Env}{bY:FuncId}{id:Nat}{ops:Array Oper}(h:lk X bY id ops=true):anc X bY id ops (fun j=>(Y0 ops.toList).getD j []):=by
 unfold lk at h;simp only[aaF]at h;obtain⟨hm,h⟩:=h;generalize Y0 ops.toList=B at*;have hj: ∀(j:Nat) o,ops.toList[j]?=some o->_:=fun j o ho=>by
  have gY:j<ops.toList.length:=(List.getElem?_eq_some_iff.1 ho).1;have:=List.all_eq_true.1 h j (List.mem_range.2 gY);simp only[ho,aaF]at this;exact this
 have hlen:ops.toList.length=ops.size:=abU;refine⟨hm,fun j o e ho he hb=> ?_,fun j i FI hi=> ?_,fun j o i ho hi=> ?_,fun i j oi oj t mz hoi hoj SY hdj=> ?_,fun j k o ok t ho lj hd hl=> ?_,fun i j oi oj mz hoi hoj h3 h2=> ?_,fun j p o ho hc hp hw hf=> ?_⟩
 ·have:=List.all_eq_true.1 (hj j o ho).1.1.1.1 e (by simpa using he);simpa[hb] using this
 ·have ho:ops.toList[j]?=some ops.toList[j]:=aaJ (by omega);have:=List.all_eq_true.1 (hj j _ ho).1.1.1.2 i hi;simp only[aaF,decide_eq_true_eq]at this;exact this.1
 ·have:=List.all_eq_true.1 (hj j o ho).1.1.1.2 i hi;simp only[aaF,decide_eq_true_eq,aeN,abX,beq_iff_eq,acK]at this;obtain⟨_,e,he,hb,Yh⟩:=this;exact⟨e,by simpa using he,hb,Yh⟩
 ·have:=List.all_eq_true.1 (hj j oj hoj).1.1.2 i (List.mem_range.2 mz);simp only[aaF,Y1 hoi]at this;have h1:=this.1;rw[SY,hdj]at h1;simp at h1
 ·have hk:k<ops.toList.length:=(List.getElem?_eq_some_iff.1 lj).1;have:=List.all_eq_true.1 (List.all_eq_true.1 (hj j o ho).1.2 t hl) k (List.mem_range.2 hk);rw[Y1 lj,hd]at this;simp only[bne_self_eq_false,aeJ,abX,aaF,aaZ,acK,List.any_eq_false,beq_iff_eq]at this;rcases this with h1|⟨h1,h2⟩
  ·exact .inl h1
  ·exact .inr ⟨h1,fun p hp=>h2 (j,p) hp rfl⟩
 ·have:=List.all_eq_true.1 (hj j oj hoj).1.1.2 i (List.mem_range.2 mz);simp only[aaF,wr,CB hoi,CB hoj,h3]at this;have h1:=this.2;simpa[h2] using h1
 ·have:=(hj j o ho).2;simp only[CB ho,hc,beq_self_eq_true,adY,aeJ]at this;have:=List.all_eq_true.1 this p (List.mem_range.2 (by omega));simp only[abX,aaZ,acK]at this;rcases this with((h1|h1)|h1)|h1
  ·exfalso;rw[Bool.or_eq_false_iff]at h1;rcases hw with rfl|⟨ow,Cj,h3⟩
   ·simp at h1
   ·have:=h1.2;unfold wr at this;rw[CB Cj,h3]at this;cases this
  ·exfalso;rw[<-Bool.not_eq_true]at h1;apply h1;unfold anb;rw[aaP];intro w PG;rw[aeX,abF]at PG;have Cj:ops.toList[w]?=some ops.toList[w]:=aaJ PG;have hfw:=hf w _ Cj;simp only[wr,CB Cj,abX,aaZ,beq_eq_false_iff_ne,aaF,decide_eq_true_eq];by_cases OZ:cls X bY ops.toList[w]=3
   ·right;obtain⟨g1,g2⟩:=hfw OZ;refine⟨?_,?_⟩
    ·by_cases SS:w∈B.getD j []
     ·exact .inr (g1 SS)
     ·left;simpa[acK] using SS
    ·by_cases SS:j∈B.getD w []
     ·exact .inr (g2 SS)
     ·left;simpa[acK] using SS
   ·left;exact OZ
  ·left;unfold ayb at h1;simp only[aaF,decide_eq_true_eq]at h1;refine⟨h1.1,fun w ow Cj=> ?_⟩;have hwl:w<ops.toList.length:=(List.getElem?_eq_some_iff.1 Cj).1;have:=List.all_eq_true.1 h1.2 w (List.mem_range.2 (by simpa using hwl));simp only[aaF,wr,CB Cj,abX,aaZ]at this;refine⟨fun h3=> ?_,fun h2 FJ Dr=> ?_⟩
   ·have:=this.1;simp only[h3,beq_self_eq_true,Bool.true_eq_false,false_or,beq_iff_eq,decide_eq_decide]at this;exact this
   ·have:=this.2;simpa[h2,FJ,Dr] using this
  ·exact .inr h1
structure Tr (X:Env) (C:jm) (bY:FuncId) (id:Nat) (ops:Array Oper) (S F:St) (T:Nat->St) (B:Nat->List Nat):Prop where
 draw:anc X bY id ops B
 news:rh X C
 rW:o9 X C
 t0:T 0={S with n:=S.n+ops.size}
 tN:T ops.size=F
 step: ∀(k:Nat) o,ops.toList[k]?=some o->stepG X C bY (ops.toList.map (·.dst)) S.n k o (T k)=some (T (k+1))
 pre: ∀p,p<=ops.size->gM X C bY (ops.toList.map (·.dst)) S.n 0 (ops.toList.take p) {S with n:=S.n+ops.size}=some (T p)
 a7d:lA X C bY ops.toList S.n {S with n:=S.n+ops.size} F (X.sX bY id)
 fresh: ∀i,S.n<=i->S.h i=none
section
variable {X:Env} {C:jm} {bY:FuncId} {id:Nat} {ops:Array Oper} {S F:St} {T:Nat->St} {B:Nat->List Nat}
theorem Jd{k:Nat}(hk:k<ops.size):ops.toList[k]?=some ops.toList[k]:=aaJ (by omega)
theorem Je{k:Nat}{o:Oper}(h:ops.toList[k]?=some o):k<ops.size:=by grind
theorem Tr.ah9(t:Tr X C bY id ops S F T B): ∀k,k<=ops.size->S.n+ops.size<=(T k).n
 |0,_=>by rw[t.t0];grind
 |k+1,hk=>by
  have h1:=t.ah9 k (by omega);have:=(ana t.news (t.step k _ (Jd (by omega)))).1;omega
theorem Tr.AJ(t:Tr X C bY id ops S F T B): ∀m q,m<=q->q<ops.size->(T m).h (S.n+q)=none
 |0,q,_,hq=>by rw[t.t0];exact t.fresh _ (by omega)
 |m+1,q,hm,hq=>by
  have h1:=t.AJ m q (by omega) hq;have h2:=t.ah9 m (by omega);exact(ana t.news (t.step m _ (Jd (by omega)))).2 _ (by omega) (by omega) h1
theorem Y2{S:St}{d:Option Nat}{v:V}{t:Nat}(h:d≠some t):(S.set d v).f t=S.f t:=by
 cases d with
 |none=>rfl
 |some x=>
  have:t≠x:=fun e=>h (by rw[e]);simp[St.set,aR,this]
theorem PT{S:St}{d:Option Nat}{v:V}{t:Nat}(h:d=some t):(S.set d v).f t=v:=by
 subst h;simp[St.set,aR]
theorem Tr.arb(t:Tr X C bY id ops S F T B){k:Nat}{o:Oper}(ho:ops.toList[k]?=some o){x:Nat}(hd:o.dst≠some x):(T (k+1)).f x=(T k).f x:=by
 obtain⟨v,h1,_⟩:=PM (t.step k o ho);rw[h1,Y2 hd]
theorem Tr.Et(t:Tr X C bY id ops S F T B){x:Nat}{i:Nat}: ∀m,i<=m->m<=ops.size->(∀k o,i<=k->k<m->ops.toList[k]?=some o->o.dst≠some x)->(T m).f x=(T i).f x
 |0,hi,_,_=>by grind
 |m+1,hi,hm,hk=>by
  by_cases he:i=m+1
  ·rw[he]
  ·rw[t.arb (Jd (by omega)) (hk m _ (by omega) (by omega) (Jd (by omega)))];exact t.Et m (by omega) (by omega) fun k o h1 h2 h3=>hk k o h1 (by omega) h3
theorem Tr.SZ(t:Tr X C bY id ops S F T B){k:Nat}{o:Oper}(ho:ops.toList[k]?=some o){x:Nat}(hd:o.dst=some x): ∀m,k<m->m<=ops.size->(T m).f x=F.f x:=by
 intro m hm hms;have hk:=Je ho;have key: ∀m,k<m->m<=ops.size->(T m).f x=(T (k+1)).f x:=fun m hm hms=>t.Et m (by omega) hms fun i oi h1 h2 h3=>t.draw.dst k i o oi x (by omega) ho h3 hd;rw[<-t.tN,key m hm hms,key ops.size hk (aaI _)]
theorem Tr.PU(t:Tr X C bY id ops S F T B){x:Nat}(hx: ∀(k:Nat) o,ops.toList[k]?=some o->o.dst≠some x): ∀m,m<=ops.size->(T m).f x=S.f x:=by
 intro m hm;rw[t.Et (i:=0) m (by omega) hm fun k o _ _ h=>hx k o h,t.t0]
theorem Tr.quiet(t:Tr X C bY id ops S F T B){p:Nat}: ∀m,p<=m->m<=ops.size->(∀k o,p<=k->k<m->ops.toList[k]?=some o->cls X bY o≠3)->
  (T m).n=(T p).n/\(∀i,(∀(k:Nat) o,p<=k->k<m->ops.toList[k]?=some o->cls X bY o=2->i≠S.n+k)->(T m).h i=(T p).h i)/\
   (∀(k:Nat) o,p<=k->k<m->ops.toList[k]?=some o->cls X bY o=2->(T m).h (S.n+k)=(T (k+1)).h (S.n+k))
 |0,hp,_,_=>by grind
 |m+1,hp,hm,hw=>by
  by_cases he:p=m+1
  ·grind
  ·obtain⟨h1,h2,h3⟩:=t.quiet m (by omega) (by omega) fun k o g1 g2 g3=>hw k o g1 (by omega) g3;have ho:=Jd (ops:=ops) (k:=m) (by omega);have kD:=t.step m _ ho;generalize ops.toList[m]=o at*;have OZ:=hw m o (by omega) (by omega) ho;have pW:cls X bY o=0\/cls X bY o=1\/cls X bY o=2:=by
    have:cls X bY o<=3:=by
     unfold cls;repeat' split
     all_goals omega
    omega
   have same:(cls X bY o=0\/cls X bY o=1)->(T (m+1)).h=(T m).h/\(T (m+1)).n=(T m).n:=by
    rintro(hc|hc)
    ·obtain⟨v,e,_⟩:=YT hc kD;rw[e,fm,gZ];grind
    ·obtain⟨v,e,_⟩:=YU hc kD;rw[e,fm,gZ];grind
   by_cases D7:cls X bY o=2
   ·obtain⟨v,ob,e,_⟩:=YV D7 kD;have hn:(T (m+1)).n=(T m).n:=by rw[e,gZ]
    have hh: ∀i,i≠S.n+m->(T (m+1)).h i=(T m).h i:=by
     intro i hi;rw[e,fm];cases ob with
     |none=>rfl
     |some ob=>simp[BA,aR,hi]
    grind
   grind
end
open Classical in
noncomputable def SE(X:Env)(bY:FuncId)(ops:Array Oper)(S F:St)(T:Nat->St)(E:Nat->Prop)(p:Nat):St:=
 {f:=fun x=>if∃k o,E k/\ops.toList[k]?=some o/\o.dst=some x then F.f x else S.f x
  h:=fun i=>if∃k o,i=S.n+k/\ops.toList[k]?=some o/\cls X bY o=2/\E k/\p<=k then(T (i-S.n+1)).h i else(T p).h i
  n:=(T p).n}
structure Stg (X:Env) (bY:FuncId) (ops:Array Oper) (B:Nat->List Nat) (E:Nat->Prop) (p:Nat):Prop where
 lt: ∀k,E k->k<ops.size
 closed: ∀k,E k-> ∀i∈B k,E i
 le:p<=ops.size
 last:p=0\/ ∃o,ops.toList[p-1]?=some o/\cls X bY o=3
 iff: ∀(w:Nat) o,ops.toList[w]?=some o->cls X bY o=3->(E w↔w<p)
section
variable {X:Env} {C:jm} {bY:FuncId} {id:Nat} {ops:Array Oper} {S F:St} {T:Nat->St} {B:Nat->List Nat} {E:Nat->Prop} {p j:Nat} {o:Oper}
theorem Eu(t:Tr X C bY id ops S F T B)(g:Stg X bY ops B E p)(ho:ops.toList[j]?=some o)(hb: ∀i∈B j,E i)(hnj: ¬E j){x:Nat}(hx:x∈o.looksAt ops):
  (SE X bY ops S F T E p).f x=(T j).f x/\((∃p,(j,p)∈X.sX bY id)->F.f x=(T j).f x):=by
 have hj:=Je ho;by_cases hk: ∃(k:Nat) (ok:Oper),ops.toList[k]?=some ok/\ok.dst=some x
 ·obtain⟨k,ok,lj,hd⟩:=hk;rcases t.draw.looks j k o ok x ho lj hd hx with hkb|⟨hjb,kC⟩
  ·have hkj:=t.draw.lt j k hj hkb;have hf:=t.SZ lj hd j hkj (by omega);refine⟨?_,fun _=>hf.symm⟩;simp only[SE];rw[if_pos ⟨k,ok,hb k hkb,lj,hd⟩,hf]
  ·have hjk:=t.draw.lt k j (Je lj) hjb;have only: ∀(i:Nat) oi,ops.toList[i]?=some oi->oi.dst=some x->i=k:=by
    intro i oi hi SY;rcases adP i k with h|h|h
    ·exact absurd hd (t.draw.dst i k oi ok x h hi lj SY)
    ·exact h
    ·exact absurd SY (t.draw.dst k i ok oi x h lj hi hd)
   refine⟨?_,fun⟨p,hp⟩=>absurd hp (kC p)⟩;have h1:(T j).f x=S.f x:=by
    rw[t.Et (i:=0) j (by omega) (by omega) fun i oi _ h2 h3 h4=>by grind,t.t0]
   simp only[SE];rw[if_neg,h1];rintro⟨i,oi,hE,hi,SY⟩;rw[only i oi hi SY]at hE;exact hnj (g.closed k hE j hjb)
 ·have hn: ∀(k:Nat) ok,ops.toList[k]?=some ok->ok.dst≠some x:=fun k ok h1 h2=>hk ⟨k,ok,h1,h2⟩;have h1:=t.PU hn j (by omega);have h2:=t.PU hn ops.size (aaI _);rw[t.tN]at h2;refine⟨?_,fun _=>by grind⟩;simp only[SE]
  grind
theorem Jf{y:Operand}{x:Nat}(hy:y∈o.op.operands.toList)(e:y= .tmp x):x∈o.looksAt ops:=by
 subst e;exact List.mem_append_left _ (List.mem_filterMap.2 ⟨.tmp x,hy,rfl⟩)
theorem Ds{i d:Nat}{want:Bool}(hg:o.guard=some (i,want))(hd:(ops.toList.map (·.dst))[i]?=some (some d)):d∈o.looksAt ops:=by
 refine List.mem_append_right _ ?_
 grind
theorem aia(t:Tr X C bY id ops S F T B)(g:Stg X bY ops B E p)(ho:ops.toList[j]?=some o)(hb: ∀i∈B j,E i)(hnj: ¬E j):H7 (ops.toList.map (·.dst)) o (T j) (SE X bY ops S F T E p):=by
 refine⟨fun y hy=> ?_,fun i want d hg hd=>(Eu t g ho hb hnj (Ds hg hd)).1⟩;cases y with
 |tmp x=>exact(Eu t g ho hb hnj (Jf hy rfl)).1
 |_=>rfl
theorem MB(t:Tr X C bY id ops S F T B)(ho:ops.toList[j]?=some o){A Y:St}{v:V}(hA:A.f=(SE X bY ops S F T E p).f)(hv: ∀d,o.dst=some d->F.f d=v)(q:Nat):
  (A.set o.dst v).f=(SE X bY ops S F T (fun k=>E k\/k=j) q).f:=by
 funext x;by_cases hd:o.dst=some x
 ·rw[PT hd];simp only[SE]
  simp_all
 ·rw[Y2 hd,hA];simp only[SE];have this:(∃(k:Nat) (o:Oper),E k/\ops.toList[k]?=some o/\o.dst=some x)↔(∃(k:Nat) (o:Oper),(E k\/k=j)/\ops.toList[k]?=some o/\o.dst=some x):=by
   constructor
   ·grind
   ·grind
  by_cases hc: ∃(k:Nat) (o:Oper),E k/\ops.toList[k]?=some o/\o.dst=some x
  ·simp_all
  grind
theorem wV(t:Tr X C bY id ops S F T B)(ho:ops.toList[j]?=some o){Y:St}{v:V}(he:T (j+1)=Y.set o.dst v): ∀d,o.dst=some d->F.f d=v:=by
 intro d hd;have hj:=Je ho;rw[<-t.SZ ho hd (j+1) (by omega) (by omega),he,PT hd]
theorem AK{A Y:St}(h1:A.f=Y.f)(h2:A.h=Y.h)(h3:A.n=Y.n):A=Y:=by
 cases A;simp_all
theorem adv(t:Tr X C bY id ops S F T B)(g:Stg X bY ops B E p)(ho:ops.toList[j]?=some o)(hj: ¬E j)(hb: ∀i∈B j,E i):
  ∃p',Stg X bY ops B (fun k=>E k\/k=j) p'/\stepG X C bY (ops.toList.map (·.dst)) S.n j o (SE X bY ops S F T E p)=some (SE X bY ops S F T (fun k=>E k\/k=j) p'):=by
 have gY:=Je ho;have sZ:=aia t g ho hb hj;have kD:=t.step j o ho;have uniq: ∀{ok:Oper},ops.toList[j]?=some ok->ok=o:=fun h=>by grind
 have ah2: ∀k,(E k\/k=j)->k<ops.size:=fun k hk=>by
  rcases hk with hk|rfl
  ·exact g.lt k hk
  omega
 have aye: ∀k,(E k\/k=j)-> ∀i∈B k,E i\/i=j:=fun k hk i hi=>by
  rcases hk with hk|rfl
  ·exact .inl (g.closed k hk i hi)
  grind
 have Y3: ∀k,E k->j∉B k:=fun k hk hjb=>hj (g.closed k hk j hjb);by_cases OZ:cls X bY o=3
 ·
  have hW: ∀(w:Nat) ow,ops.toList[w]?=some ow->cls X bY ow=3->(E w↔w<j):=by
   intro w ow Cj h3;constructor
   ·intro hw;rcases adP w j with h|h|h
    ·exact h
    ·grind
    ·exact absurd (t.draw.ww j w o ow h ho Cj h3 (by omega)) (Y3 w hw)
   ·intro h;exact hb w (t.draw.ww w j ow o h Cj ho OZ (by omega))
  have hpj:p<=j:=by
   rcases g.last with h|⟨ow,Cj,h3⟩
   ·omega
   ·by_cases h0:p=0
    ·omega
    ·have:=(g.iff (p-1) ow Cj h3).2 (by omega)
     grind
  obtain⟨q1,q2,q3⟩:=t.quiet j hpj (by omega) fun k ok h1 h2 lj h3=>by
   have:=(hW k ok lj h3).2 h2;have:=(g.iff k ok lj h3).1 this;omega
  have hnj: ∀k,j<=k->k<ops.size->(T j).h (S.n+k)=none:=fun k h1 h2=>t.AJ j k h1 h2
  classical
  have hG: ∃G:bh,(∀i,G i=if∃k o,i=S.n+k/\ops.toList[k]?=some o/\cls X bY o=2/\E k/\j+1<=k then(T (i-S.n+1)).h i else none):=by
   exact⟨fun i=>if∃k o,i=S.n+k/\ops.toList[k]?=some o/\cls X bY o=2/\E k/\j+1<=k then(T (i-S.n+1)).h i else none,fun _=>rfl⟩
  obtain⟨G,hG⟩:=hG;have hGn: ∀i,G i≠none-> ∃k,i=S.n+k/\j+1<=k/\k<ops.size/\ ∃o,ops.toList[k]?=some o/\cls X bY o=2/\E k:=by
   intro i hi;rw[hG]at hi;split at hi
   ·grind
   ·grind
  have hh:(SE X bY ops S F T E p).h=o8 (T j).h G:=by
   funext i;simp only[SE,o8];split
   ·rename_i hx;obtain⟨k,ok,rfl,lj,h2,hE,hpk⟩:=hx;have hkj:k≠j:=fun e=>by grind
    rcases aaR k j with h|h
    ·grind
    ·rw[hG,if_pos ⟨k,ok,rfl,lj,h2,hE,by omega⟩]
     grind
   ·rename_i hx;have hg0:G i=none:=by
     cases hz:G i with
     |none=>rfl
     |some y=>
      grind
    rw[hg0];rw[q2 i fun k ok h1 h2 lj h3 e=>hx ⟨k,ok,e,lj,h3,hb k (t.draw.ww k j ok o h2 lj ho OZ (by omega)),h1⟩]
  obtain⟨v,e1,e2⟩:=PM kD;have a7e:Stg X bY ops B (fun k=>E k\/k=j) (j+1):=⟨ah2,aye,by omega,.inr ⟨o,by grind,OZ⟩,fun w ow Cj h3=>by grind⟩;have hh':(SE X bY ops S F T (fun k=>E k\/k=j) (j+1)).h=o8 (T (j+1)).h G:=by
   funext i;simp only[SE,o8];by_cases hx: ∃k o,i=S.n+k/\ops.toList[k]?=some o/\cls X bY o=2/\E k/\j+1<=k
   ·obtain⟨k,ok,rfl,lj,h2,hE,hk⟩:=hx;rw[if_pos ⟨k,ok,rfl,lj,h2,.inl hE,hk⟩,hG,if_pos ⟨k,ok,rfl,lj,h2,hE,hk⟩];cases hz:(T (S.n+k-S.n+1)).h (S.n+k) with
    |some y=>rfl
    |none=>
     rw[t.AJ (j+1) k hk (g.lt k hE)]
   ·grind
  have OW:(SE X bY ops S F T (fun k=>E k\/k=j) (j+1)).n=(T (j+1)).n:=rfl;refine⟨j+1,a7e,?_⟩;have hf:=MB (A:={SE X bY ops S F T E p with h:=(T (j+1)).h,n:=(T (j+1)).n}) (p:=p) (E:=E) (Y:=S) t ho rfl (wV t ho e1) (j+1);by_cases a7g: ∀i,G i=none
  ·have eG: ∀h:bh,o8 h G=h:=fun h=>by funext i;exact Kx (a7g i)
   rw[eG]at hh hh';rw[e2 _ sZ hh q1.symm];exact congrArg some (AK hf (by rw[fm,hh']) (by rw[gZ,OW]))
  ·
   have hN:uF (T j).h G (T j).n:=fun i hi=>by
    obtain⟨k,h1,h2,h3,_⟩:=hGn i hi;have:=t.ah9 j (by omega)
    grind
   have hGj:G (S.n+j)=none:=by
    cases hz:G (S.n+j) with
    |none=>rfl
    |some y=>
     grind
   have Hp:=PQ t.rW hN hGj kD;obtain⟨v2,e3,e4⟩:=PM Hp;have ard:H7 (ops.toList.map (·.dst)) o {T j with h:=o8 (T j).h G} (SE X bY ops S F T E p):=sZ;rw[e4 _ ard hh q1.symm];have hv2: ∀d,o.dst=some d->v2=v:=by
    intro d hd;have h1:=congrArg (fun Z:St=>Z.f d) e3;have h2:=congrArg (fun Z:St=>Z.f d) e1;simp only[PT hd]at h1 h2;rw[<-h1,<-h2]
   have ah5: ∀d,o.dst=some d->F.f d=v2:=fun d hd=>by rw[hv2 d hd];exact wV t ho e1 d hd
   have hf2:=MB (A:={SE X bY ops S F T E p with h:=o8 (T (j+1)).h G,n:=(T (j+1)).n}) (p:=p) (E:=E) (Y:=S) t ho rfl ah5 (j+1);exact congrArg some (AK hf2 (by rw[fm,hh']) (by rw[gZ,OW]))
 ·
  have yk:Stg X bY ops B (fun k=>E k\/k=j) p:=⟨ah2,aye,g.le,g.last,fun w ow Cj h3=>by
   constructor
   ·rintro(h|h)
    ·exact(g.iff w ow Cj h3).1 h
    ·subst h;rw[uniq Cj]at h3;exact absurd h3 OZ
   ·intro h;exact .inl ((g.iff w ow Cj h3).2 h)⟩
  refine⟨p,yk,?_⟩;have OW:(SE X bY ops S F T (fun k=>E k\/k=j) p).n=(SE X bY ops S F T E p).n:=rfl;have anf:cls X bY o≠2->(SE X bY ops S F T E p).h=(SE X bY ops S F T (fun k=>E k\/k=j) p).h:=by
   intro D7;funext i;simp only[SE];by_cases hc: ∃(k:Nat) (ok:Oper),i=S.n+k/\ops.toList[k]?=some ok/\cls X bY ok=2/\E k/\p<=k
   ·obtain⟨k,ok,h1,h2,h3,h4,h5⟩:=hc;rw[if_pos ⟨k,ok,h1,h2,h3,h4,h5⟩,if_pos ⟨k,ok,h1,h2,h3,.inl h4,h5⟩]
   ·rw[if_neg hc,if_neg];rintro⟨k,ok,h1,h2,h3,h4|h4,h5⟩
    ·exact hc ⟨k,ok,h1,h2,h3,h4,h5⟩
    ·subst h4;rw[uniq h2]at h3;exact D7 h3
  have pW:cls X bY o=0\/cls X bY o=1\/cls X bY o=2:=by
   have:cls X bY o<=3:=by
    unfold cls;repeat' split
    all_goals omega
   omega
  rcases pW with hc|hc|hc
  ·obtain⟨v,e1,e2⟩:=YT hc kD;rw[e2 _ sZ];exact congrArg some (AK (MB (Y:=S) t ho rfl (wV t ho e1) p) (by rw[fm,anf (by omega)]) (by rw[gZ,OW]))
  ·have fin: ∀v,(∀d,o.dst=some d->F.f d=v)->some ((SE X bY ops S F T E p).set o.dst v)=some (SE X bY ops S F T (fun k=>E k\/k=j) p):=fun v hv=>
    congrArg some (AK (MB (Y:=S) t ho rfl hv p) (by rw[fm,anf (by omega)]) (by rw[gZ,OW]))
   have hWp: ∀(w:Nat) ow,ops.toList[w]?=some ow->cls X bY ow=3->(w∈B j->w<p)/\(j∈B w->p<=w):=fun w ow Cj h3=>
    ⟨fun hm=>(g.iff w ow Cj h3).1 (hb w hm),fun hm=>by
     rcases aaR w p with h|h
     ·exact absurd hm (Y3 w ((g.iff w ow Cj h3).2 h))
     ·exact h⟩
   rcases t.draw.reads j p o ho hc g.le g.last hWp with⟨hpj,ayg⟩|are
   ·obtain⟨q1,q2,q3⟩:=t.quiet j hpj (by omega) fun k ok h1 h2 lj h3=>by
     have:=((ayg k ok lj).1 h3).1 h2;omega
    obtain⟨v,e1,e2⟩:=YU hc kD;rw[e2 _ sZ ?_]
    ·exact fin v (wV t ho e1)
    ·intro i ob hi;simp only[SE];split
     ·rename_i hx;obtain⟨k,ok,rfl,lj,h2,hE,hpk⟩:=hx;rcases aaR k j with h|h
      ·rw[show S.n+k-S.n+1=k+1 by omega,<-q3 k ok hpk h lj h2];exact hi
      ·rw[t.AJ j k h (g.lt k hE)]at hi;cases hi
     ·rename_i hx;rw[<-q2 i fun k ok h1 h2 lj h3 e=>hx ⟨k,ok,e,lj,h3,hb k ((ayg k ok lj).2 h3 h1 h2),h1⟩];exact hi
   ·rcases t.a7d (j,p) are with⟨o',h1,PV⟩|⟨o',T',v',h1,h2,h3,h4⟩
    ·have eo:=uniq h1;subst eo;unfold IK at PV;cases hg:o'.guard with
     |none=>rw[hg]at PV;exact absurd PV (fun h=>h)
     |some gw=>
      obtain⟨jg,want⟩:=gw;rw[hg]at PV;simp only at PV;cases hd:(ops.toList.map (·.dst))[jg]? with
      |none=>rw[hd]at PV;exact absurd PV (fun h=>h)
      |some od=>
       cases od with
       |none=>rw[hd]at PV;exact absurd PV (fun h=>h)
       |some d=>
        rw[hd]at PV;simp only at PV;have hl:=Eu t g ho hb hj (Ds hg hd);rw[hl.2 ⟨p,are⟩]at PV;have e1:=FC (X:=X) (C:=C) (bY:=bY) (n0:=S.n) (k:=j) hg hd PV;rw[kD]at e1;simp only[aA]at e1;rw[<-hl.1]at PV;rw[FC hg hd PV];exact fin _ (wV t ho e1)
    have eo:=uniq h1;subst eo;have eT:T'=T p:=by
     have:=t.pre p g.le;simp only at h2;rw[h2]at this;simpa using this
    subst eT;rcases qI kD with⟨g1,g2⟩|⟨g1,g2⟩
    ·rw[g2 _ sZ];have kC: ∀x args mM,o'.op≠ .call ⟨.value x,args,mM⟩:=by
      intro x args mM e;simp[cI,e]at h3
     obtain⟨_,k2⟩:=YK hc kC h3;have hcg: ∀y∈o'.op.operands.toList,(SE X bY ops S F T E p).ev y=F.ev y:=by
      intro y hy;cases y with
      |tmp x=>
       have:=Eu t g ho hb hj (Jf hy rfl);show(SE X bY ops S F T E p).f x=F.f x;rw[this.1,this.2 ⟨p,are⟩]
      |_=>rfl
     rw[px kC,rf hcg,k2 (SE X bY ops S F T E p).h (S.n+j) ?_]
     ·exact fin v' h4
     ·intro i ob hi;simp only[SE];split
      ·rename_i hx;obtain⟨k,ok,rfl,lj,h2,hE,hpk⟩:=hx;rw[t.AJ p k hpk (g.lt k hE)]at hi;cases hi
      ·exact hi
    ·rw[g2 _ sZ];exact fin _ (wV t ho g1)
  ·obtain⟨v,ob,e1,e2⟩:=YV hc kD;rw[e2 _ sZ];have hpj:p<=j:=by
    rcases g.last with h|⟨ow,Cj,h3⟩
    ·omega
    ·by_cases h0:p=0
     ·omega
     ·have hE:=(g.iff (p-1) ow Cj h3).2 (by omega);rcases adP (p-1) j with h|h|h
      ·omega
      ·rw[h]at hE;exact absurd hE hj
      ·exact absurd (t.draw.ww j (p-1) o ow h ho Cj h3 (by omega)) (Y3 _ hE)
   refine congrArg some (AK (MB (A:={SE X bY ops S F T E p with h:=BA (SE X bY ops S F T E p).h (S.n+j) ob}) (E:=E) (p:=p) (Y:=S) t ho rfl (wV t ho e1) p) ?_ (by rw[gZ,OW]));rw[fm];funext i;by_cases hi:i=S.n+j
   ·subst hi;have hR:(SE X bY ops S F T (fun k=>E k\/k=j) p).h (S.n+j)=(T (j+1)).h (S.n+j):=by
     simp only[SE];rw[if_pos ⟨j,o,rfl,ho,hc,.inr rfl,hpj⟩,show S.n+j-S.n+1=j+1 by omega]
    have hL:(SE X bY ops S F T E p).h (S.n+j)=none:=by
     simp only[SE];rw[if_neg,t.AJ p j hpj gY];rintro⟨k,ok,h1,_,_,h4,_⟩;have:k=j:=by omega
     subst this;exact hj h4
    rw[hR,e1,fm];cases ob with
    |none=>simp only[BA];rw[hL,t.AJ j j (aaI _) gY]
    |some ob=>simp[BA,aR]
   ·have:BA (SE X bY ops S F T E p).h (S.n+j) ob i=(SE X bY ops S F T E p).h i:=by
     cases ob with
     |none=>rfl
     |some ob=>simp[BA,aR,hi]
    show BA (SE X bY ops S F T E p).h (S.n+j) ob i=_;rw[this];simp only[SE];by_cases s7: ∃(k:Nat) (ok:Oper),i=S.n+k/\ops.toList[k]?=some ok/\cls X bY ok=2/\E k/\p<=k
    ·obtain⟨k,ok,h1,h2,h3,h4,h5⟩:=s7;rw[if_pos ⟨k,ok,h1,h2,h3,h4,h5⟩,if_pos ⟨k,ok,h1,h2,h3,.inl h4,h5⟩]
    ·rw[if_neg s7,if_neg];rintro⟨k,ok,h1,h2,h3,h4|h4,h5⟩
     ·exact s7 ⟨k,ok,h1,h2,h3,h4,h5⟩
     ·subst h4;exact hi h1
end
section
variable {X:Env} {C:jm} {bY:FuncId} {id nt:Nat} {ops:Array Oper} {S F:St} {T:Nat->St} {B:Nat->List Nat}
theorem Y4(t:Tr X C bY id ops S F T B){E:Nat->Prop}{p:Nat}(g:Stg X bY ops B E p)(m8: ∀k,k<ops.size->E k):SE X bY ops S F T E p=F:=by
 obtain⟨q1,q2,q3⟩:=t.quiet ops.size g.le (aaI _) fun k ok h1 h2 lj h3=>by
  have:=(g.iff k ok lj h3).1 (m8 k h2);omega
 rw[t.tN]at q1 q2 q3;refine AK ?_ ?_ ?_
 ·funext x;simp only[SE];split
  ·rfl
  ·rename_i hx;have:=t.PU (x:=x) (fun k o h1 h2=>hx ⟨k,o,m8 k (Je h1),h1,h2⟩) ops.size (aaI _);rw[t.tN]at this
   grind
 ·funext i;simp only[SE];split
  ·grind
  grind
 ·exact q1.symm
theorem aib (hC:qY X C) (hK:uI X) (hG: ∀bY dst g args S S1,gU X C bY dst g args S=some S1->vZ X g) (hB: ∀o∈ops.toList,Ur X nt o=true) (t:Tr X C bY id ops S F T B)
    {I:Nat->Prop} {σ:jt} (hQ: ∀a' w',PK nt S.n w I σ S.h F a' w'->Q .normal a' w'):
  ∀(fuel:Nat) (nq:Array Bool) (E:Nat->Prop) (p:Nat) (U:List Nat) (a':Act) (w':World) (I':Nat->Prop) (σ':jt),nq.size=ops.size->(∀k,E k↔nq.getD k false=true)->Stg X bY ops B E p->
   U.Nodup->U.length=fuel->(∀k,k<ops.size->(¬E k↔k∈U))->
   Step w I σ S.h S.n w' I' σ' (SE X bY ops S F T E p).h (SE X bY ops S F T E p).n->jv w' I' σ' (SE X bY ops S F T E p).f a'->lQ σ' (SE X bY ops S F T E p).h (SE X bY ops S F T E p).n->nt<=a'.tmps.size->a'.defers=[]->
   (∀q,q<ops.size-> ¬E q->(SE X bY ops S F T E p).h (S.n+q)=none/\σ' (S.n+q)=none)->
   wpAny X.P .any ops Q fuel nq a' w':=by
 have arf: ∀{nq:Array Bool} {E:Nat->Prop},nq.size=ops.size->(∀k,E k↔nq.getD k false=true)->Region.ready .any ops nq=[]-> ∀k,k<ops.size->E k:=by
  intro nq E hs hE hr k;induction k using Nat.strongRecOn with
  |_ k ih=>
   intro hk;by_cases hEk:E k
   ·omega
   ·have ho:=Jd (ops:=ops) hk;have Mn:k∈Region.ready .any ops nq:=by
     rw[mem_ready];have hl:nq.getD k false=false:=by
      have:=mt (hE k).2 hEk;simpa using this
     refine⟨?_,ops.toList[k],by grind,fun e he hb=> ?_⟩
     ·grind
     ·have gY:=t.draw.a7b k _ e ho he hb
      grind
    grind
 have fin: ∀{E:Nat->Prop} {p:Nat} {a':Act} {w':World} {I':Nat->Prop} {σ':jt},Stg X bY ops B E p->(∀k,k<ops.size->E k)->Step w I σ S.h S.n w' I' σ' (SE X bY ops S F T E p).h (SE X bY ops S F T E p).n->jv w' I' σ' (SE X bY ops S F T E p).f a'->
   lQ σ' (SE X bY ops S F T E p).h (SE X bY ops S F T E p).n->nt<=a'.tmps.size->a'.defers=[]->Q .normal a' w':=by
  intro E p a' w' I' σ' g m8 kD hF ot hs hd;rw[Y4 t g m8]at kD hF ot;exact hQ a' w' ⟨I',σ',kD.le,kD,hF,ot,hs,hd⟩
 intro fuel;induction fuel with
 |zero=>
  intro nq E p U a' w' I' σ' hls hE g hnd hU hUE kD hF ot hs hd hq;have m8: ∀k,k<ops.size->E k:=fun k hk=>by grind
  refine⟨?_,fin g m8 kD hF ot hs hd⟩;cases hr:Region.ready .any ops nq with
  |nil=>rfl
  |cons k r=>
   have hm:k∈Region.ready .any ops nq:=by rw[hr];simp
   rw[mem_ready]at hm
   grind
 |succ fuel ih=>
  intro nq E p U a' w' I' σ' hls hE g hnd hU hUE kD hF ot hs hd hq;refine⟨fun hr=>fin g (arf hls hE hr) kD hF ot hs hd,fun j hj=> ?_⟩;rw[mem_ready]at hj;obtain⟨h1,o,hoa,ari⟩:=hj;have tH:j<ops.size:=(Array.getElem?_eq_some_iff.1 hoa).1;have ho:ops.toList[j]?=some o:=by rw[acJ];exact hoa
  have LB:nq[j]?=some (nq[j]'(by omega)):=by simp[hls,tH]
  have hEj: ¬E j:=fun h=>by grind
  have hb: ∀i∈B j,E i:=fun i hi=>by
   obtain⟨e,he,Xy,Yh⟩:=t.draw.bef j o i ho hi;have hEe:=(hE e.on).2 (ari e he Xy);rcases Yh with rfl|Yh
   ·omega
   ·exact g.closed _ hEe i Yh
  obtain⟨p',g',yp⟩:=adv t g ho hEj hb;have hoB:Ur X nt o=true:=hB o (by grind);have YH: ∀x,o.dst=some x->x<a'.tmps.size:=fun x hx=>abS (SV hoB x hx) hs;have hE': ∀k,(E k\/k=j)↔(nq.setIfInBounds j true).getD k false=true:=by
   intro k;rw[abB];by_cases hkj:k=j
   ·grind
   ·have:=hE k;rw[abB]at this
    grind
  have hjU:j∈U:=(hUE j tH).1 hEj;have a7j: ∀k,k<ops.size->(¬(E k\/k=j)↔k∈U.erase j):=by
   intro k hk;rw[hnd.mem_erase_iff,<-hUE k hk];constructor
   ·grind
   ·grind
  have LX:S.n+ops.size<=(SE X bY ops S F T E p).n:=t.ah9 p g.le;have next: ∀(a2:Act) (w2:World) (I2:Nat->Prop) (σ2:jt),Step w I σ S.h S.n w2 I2 σ2 (SE X bY ops S F T (fun k=>E k\/k=j) p').h (SE X bY ops S F T (fun k=>E k\/k=j) p').n->jv w2 I2 σ2 (SE X bY ops S F T (fun k=>E k\/k=j) p').f a2->
    lQ σ2 (SE X bY ops S F T (fun k=>E k\/k=j) p').h (SE X bY ops S F T (fun k=>E k\/k=j) p').n->nt<=a2.tmps.size->a2.defers=[]->
    (∀q,q<ops.size-> ¬(E q\/q=j)->(SE X bY ops S F T (fun k=>E k\/k=j) p').h (S.n+q)=none/\σ2 (S.n+q)=none)->wpAny X.P .any ops Q fuel (nq.setIfInBounds j true) a2 w2:=
   fun a2 w2 I2 σ2 k1 k2 k3 k4 k5 k6=>ih _ _ p' (U.erase j) a2 w2 I2 σ2 (by grind) hE' g' (hnd.erase j) (by grind) a7j k1 k2 k3 k4 k5 k6
  generalize SE X bY ops S F T (fun k=>E k\/k=j) p'=Z at*;generalize SE X bY ops S F T E p=A at*;unfold wpOp;simp only[hoa];have run:fu X C bY S.n j o A=some Z->o.wp X.P a' w' (wpAny X.P .any ops Q fuel (nq.setIfInBounds j true)) Q:=by
   intro qR;refine Oper.wp_mono (fun a2 w2 hh=> ?_) (Mq hC hK hG hoB qR kD.rel hF ot (hq j tH hEj).1 (hq j tH hEj).2 (by omega) Q);obtain⟨u,v,I2,σ2,rfl,mQ,hf,YY,hle,a7k,PF⟩:=hh;exact next _ _ I2 σ2 (kD.join YY (aaI _) hle) ((hF.ext YY.ext).ah6 mQ o.dst YH hf) a7k (by rw[By];omega) (by rw[put_defers];omega)
    fun q hq1 hq2=>PF q (fun e=>hq2 (.inr e)) (by omega) (hq q hq1 fun e=>hq2 (.inl e)).1 (hq q hq1 fun e=>hq2 (.inl e)).2
  have skip:A.set o.dst (.dM [])=Z->wpAny X.P .any ops Q fuel (nq.setIfInBounds j true) (a'.put o.dst undef) w':=by
   intro qR;subst qR;refine next _ _ I' σ' (by rw[fm,gZ];omega) (hF.ah6 I7 o.dst YH rfl) (by rw[fm,gZ];omega) (by rw[By];exact hs) (by rw[put_defers];exact hd) fun q hq1 hq2=> ?_;rw[fm];exact hq q hq1 fun e=>hq2 (.inl e)
  unfold stepG at yp;split at yp
  ·rename_i hg;have hw:Region.wanted o (yielded ops a'.tmps)=true:=by simp[Region.wanted,hg]
   simp only[hw,if_true];exact .inl (run yp)
  ·rename_i i want hg;split at yp
   case h_2=>cases yp
   rename_i d Hs;have PG:=Fv hF hg Hs;split at yp
   ·rename_i b H8;have hw:=PG.1 b H8;split at yp
    ·rename_i YW;subst YW;rw[beq_self_eq_true]at hw;simp only[hw,if_true];exact .inl (run yp)
    ·rename_i YW;have:(b==want)=false:=by simpa using YW
     rw[this]at hw;simp only[hw,aaM,if_false];exact skip (by simpa using yp)
   ·rename_i H8;have hw:=PG.2 H8;simp only[hw,aaM,if_false];exact skip (by simpa using yp)
   ·cases yp
theorem arj(X:Env):PL X (lk X):=by
 intro C hC hN hV hK hG bY id nt ops S F hB cu Ci ayi a w I σ R hF ot hs hd Q hQ;obtain⟨T,h0,hn,a7l,kD⟩:=trace Ci;have hlen:ops.toList.length=ops.size:=abU;have t:Tr X C bY id ops S F T (fun j=>(Y0 ops.toList).getD j []):=
  ⟨PS cu,hN,hV,h0,by omega,kD,fun p hp=>a7l p (by omega),ayi,fun i hi=>(ot i hi).1⟩
 refine wp_region_any t.draw.mixed ?_;have g:Stg X bY ops (fun j=>(Y0 ops.toList).getD j []) (fun _=>False) 0:=⟨fun _ h=>h.elim,fun _ h=>h.elim,by omega,.inl rfl,fun w o _ _=>⟨fun h=>h.elim,fun h=>by omega⟩⟩;have hSE:SE X bY ops S F T (fun _=>False) 0={S with n:=S.n+ops.size}:=by
  refine AK ?_ ?_ ?_
  ·funext x;simp only[SE]
   grind
  ·funext i;simp only[SE]
   simp_all
  ·simp only[SE];rw[h0]
 have ang:=Step.drew R S.n;refine aib hC hK hG hB t (w:=w) (I:=I) (σ:=σ) hQ ops.size _ (fun _=>False) 0 (List.range ops.size) a w.drew I σ (by simp) (fun k=> ?_) g List.nodup_range (by simp) (fun k hk=>by grind) ?_ ?_ ?_ hs hd ?_
 ·constructor
  ·grind
  ·intro h;rw[abB,Array.getElem?_replicate]at h
   grind
 ·rw[hSE];exact ang.SR (aaI _) (by simp)
 ·rw[hSE];exact hF.ext ang.ext
 ·rw[hSE];exact fun i hi=>ot i (by grind)
 ·intro q _ _;rw[hSE];exact ot _ (by omega)
end
structure Is (o:Oper) (d:Nat) (op:Op):Prop where
 dst:o.dst=some d
 op:o.op=op
 guard:o.guard=none
def UU(i0 i1 i2 i3:Nat)(a b c d e f g h:Oper):Code:=
 .seq (.region i0 #[a] false) (.seq (.seq (.region i1 #[b,c] false) (.cond (.tmp 4) (.seq (.region i2 #[d] false) .ret) .skip)) (.seq (.region i3 #[e,f,g,h] false) .ret))
structure Ew (X:Env) (g:FuncId) (t:TypeId):Prop where
 slice:X.P.underlying t=some (.slice (X.ti t).elem)
 elem:tB X (X.ti t).elem=true
 body: ∃fn ty Xz i0 i1 i2 i3 oa ob oc od oe of og oh,X.P.funcs[g]?=some fn/\fn.body=some (UU i0 i1 i2 i3 oa ob oc od oe of og oh)/\fn.ntmps=8/\fn.results= #[.tmp 2]/\(fn.name== "runtime.NumGoroutine")=false/\
  Is oa 2 (.assign (.const (.slice none 0 0)))/\Is ob 3 (.move (.tmp 0))/\Is oc 4 (.binOp .eql t (.tmp 3) (.const (.slice none 0 0)) ty)/\Is od 2 (.assign (.const (.slice none 0 0)))/\
  Is oe 5 (.buildSlice t 0 #[])/\Is of 6 (.move (.tmp 0))/\Is og 7 (.call ⟨.builtin .append,#[.tmp 5,.tmp 6],#[t,Xz]⟩)/\Xz=t/\Is oh 2 (.assign (.tmp 7))
def nO {P:Program} {ops:Array Oper}  {i d:Nat} {rest:List Nat} {a:Act}  {o:Oper} {op:Op} {v:Value} (ho:Is o d op) (hi:ops[i]?=some o)
  (hr:(execOp a.eval o).run P w= .ok (.value v) w') (hn:wpOps P ops Q rest (a.put (some d) v) w'):wpOps P ops Q (i::rest) a w:=by
 simp only[wpOps,hi,Region.wanted,ho.guard,if_true];left;unfold Oper.wp;rw[hr];simp only[Oper.upon,ho.dst];omega
def Step.alloc{w:World}{I:Nat->Prop}{σ:jt}{h:bh}(R:Rel w I σ h)(ob:Obj)(n:Nat):Step w I σ h n (w.alloc ob) I σ h n:=
 ⟨Ext.alloc R.ed ob,R.alloc ob,rfl,rfl,rfl,by simp_all,fun b hb _=>Po w ob b hb,fun _ hb=> .inr hb,fun _ hb=> .inl hb,aaI _,fun _ _=>rfl,fun _ _ hn=>hn⟩
def Y5{X:Env}(pW: ∀g t,X.clone g=some t->Ew X g t)(hP:Fk X):uI X:=by
 refine⟨hP,?_⟩;intro g t hg w I σ h n s u es kx kp R hn hs hr he H5 Yg hl hb hm;obtain⟨hu,hT,fn,ty,Xz,i0,i1,i2,i3,oa,ob,oc,od,oe,of,og,oh,hf,Y6,Cr,PR,_,ha,wL,hc,hd,hee,hff,hgg,rfl,hh⟩:=pW g t hg;have T:=lP hT;have PJ: ∃ad l cap,u= .slice ad l cap/\l=es.length/\(ad=none->es=[]):=by
  cases s with
  |sl c Ae=>
   obtain⟨rfl,_⟩:=he;obtain⟨ad,cap,rfl,_,_,_,h4⟩:=hr
   grind
  |cu id st l=>
   simp only[elems]at he;cases gG:h id with
   |none=>grind
   |some oK=>
    simp only[gG]at he;split at he
    case isFalse=>grind
    obtain⟨rfl,_⟩:=he;have hlen:((oK.es.drop st).take l).length=l:=by simp;omega
    obtain⟨ad,cap,rfl,B⟩:=Mc R hr gG;refine⟨ad,l,cap,rfl,hlen.symm,fun h=> ?_⟩;rcases B.place with hp|⟨b,o,c,el,_,Xi,_⟩
    ·apply abP;have:=B.le;omega
    grind
  |str x=>cases H5
  |_=>simp[elems]at he
 obtain⟨ad,l,cap,rfl,rfl,Fx⟩:=PJ;have hxi:=Kr (h:=h) (v:=s) he R hl;have huk:(∃e',X.P.underlying Xz=some (.slice e'))\/X.P.underlying Xz=some .string:= .inl ⟨_,hu⟩;refine calls_of_wp hf Y6 ?_;rw[Cr];have h0:(#[Value.slice ad es.length cap]++Array.replicate (8- #[Value.slice ad es.length cap].size) undef)= #[.slice ad es.length cap,undef,undef,undef,undef,undef,undef,undef]:=rfl;refine wp_seq (wp_region ?_);refine nO (i:=0) ha rfl (v:= .slice none 0 0) (w':=w) (by simp[execOp,ha.op,Act.eval]) ?_;refine wp_seq (wp_seq (wp_region ?_));refine nO (i:=0) wL rfl (v:= .slice ad es.length cap) (w':=w) (by simp[execOp,wL.op,Act.eval,Act.put]) ?_;refine nO (i:=1) hc rfl (v:= .bool ad.isNone) (w':=w) ?_ ?_
 ·have h1:=Go.Lib.run_eql_slice_nil (P:=X.P) w Xz _ ad es.length cap 0 0 hu;simp[execOp,hc.op,Act.eval,Act.put,eqGuard,h1]
 cases ad with
 |none=>
  have IZ:=Fx rfl;subst IZ;refine wp_cond_true (by simp[Act.eval,Act.put]) ?_;refine wp_seq (wp_region ?_);refine nO (i:=0) hd rfl (v:= .slice none 0 0) (w':=w) (by simp[execOp,hd.op,Act.eval]) ?_;refine wp_ret ?_;refine⟨rfl,.slice none 0 0,?_,.slice none 0 0,σ,rfl,Step.nil R hn hs,?_⟩
  ·simp[results,PR,Act.put]
  ·exact⟨none,0,rfl,by simp,by omega,.inl rfl⟩
 |some ad=>
  refine wp_cond_false (by simp[Act.eval,Act.put]) ?_;refine wp_skip ?_;refine wp_seq (wp_region ?_);obtain⟨us,Xr,_,_,_⟩:=tW (X:=X) (t:=Xz) (n:=0) hu T (by simp) (ps:=[]) (es:=[]) (D6:= #[]) (w:=w) (J:=I) (τ:=σ) (by simp[iN]) (by simp) (by simp[qF]);refine nO (i:=0) hee rfl (v:= .slice (some ⟨w.heap.size,0,none⟩) 0 0) (w':=w.alloc (.cells us (X.ti Xz).elem)) (by simp[execOp,hee.op,Xr]) ?_;refine nO (i:=1) hff rfl (v:= .slice (some ad) es.length cap) (w':=w.alloc (.cells us (X.ti Xz).elem)) (by simp[execOp,hff.op,Act.eval,Act.put]) ?_;have s1:=Step.alloc R (.cells us (X.ti Xz).elem) n;obtain⟨news,E4,hnr⟩:=SN huk s1.rel (hr.ext s1.ext) he hl hxi;have Lw:dB (w.alloc (.cells us (X.ti Xz).elem)) I σ (.sl true []) (.slice (some ⟨w.heap.size,0,none⟩) 0 0):=by
   simp only[dB];exact⟨some ⟨w.heap.size,0,none⟩,0,rfl,by simp,by omega,fun _=>rfl,.inl trivial⟩
  obtain⟨v,w',σ',h1,h2,h3⟩:=ye (ty:=og.type) (kp:=kp) s1.rel hu T Lw Yg hl E4 hnr hn hs hb hm;refine nO (i:=2) hgg rfl (v:=v) (w':=w') (by simp[execOp,hgg.op,Act.eval,Act.put,resolve,invoke,builtin,h1]) ?_;refine nO (i:=3) hh rfl (v:=v) (w':=w') (by simp[execOp,hh.op,Act.eval,Act.put]) ?_;refine wp_ret ?_;refine⟨rfl,v,?_,v,σ',rfl,s1.trans h2,h3⟩;simp[results,PR,Act.put]
def PW{X:Env}(pW: ∀g t,X.clone g=some t->Ew X g t): ∀g t,X.clone g=some t->vZ X g:=by
 intro g t hg;obtain⟨_,_,fn,ty,Xz,i0,i1,i2,i3,oa,ob,oc,od,oe,of,og,oh,hf,Y6,_,_,bc5,_⟩:=pW g t hg;exact⟨fn,_,hf,Y6,by omega⟩
def okB(X:Env)(a n:Nat):Bool:=(List.range' a n).all fun g=>match X.P.funcs[g]? with|some fn=>(X.oW g).isSome||fnB X (lk X) g fn|none=>true
def jn{X:Env}{a n g:Nat}{fn:Func}(h:okB X a n=true)(h1:a<=g)(h2:g<a+n)(hf:X.P.funcs[g]?=some fn)(hp:X.oW g=none):fnB X (lk X) g fn=true:=by
 have:=List.all_eq_true.1 h g (List.mem_range'_1.2 ⟨h1,h2⟩)
 grind
def UW{X:Env}(hA:Jb X (lk X))(hN:vg X)(pW: ∀g t,X.clone g=some t->Ew X g t)(hP:Fk X)(hPG: ∀g,(X.oW g).isSome=true->vZ X g):qY X (cL X):=
 YS hA hN (Y5 pW hP) (fun g hg=>by
  cases hc:X.clone g with
  |some t=>exact PW pW g t hc
  |none=>grind) (arj X) (YZ hN)
end Go.Abs
