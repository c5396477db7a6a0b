/- part -/
import Derived.Test.YtdngefmliibcgaaGreatV28
import Derived.Lib.SliceRun
import Derived.Orders
set_option linter.all false
set_option maxRecDepth 20000
set_option maxHeartbeats 20000000
namespace Go.Abs
open Go
variable  {ob:Ob}{Q:Exit->Act->World->Prop}{w w':World}
section
variable {h h' h1 G:bh} {n:Nat}
theorem uG.off(H:uG h G n){id:Nat}(gG:h id=some ob):G id=none:=by
 cases hg:G id with
 |none=>rfl
 |some x=>rw[(H id (by grind)).1]at gG;grind
theorem uG.big(H:uG h G n){id:Nat}(fa:n<=id):G id=none:=by
 cases hg:G id with
 |none=>rfl
 |some x=>have:=(H id (by grind)).2;omega
theorem KS{id:Nat}(hg:G id=none):o5 h G id=h id:=by unfold o5;rw[hg]
theorem uG.get(H:uG h G n){id:Nat}(gG:h id=some ob):o5 h G id=some ob:=by rw[KS (H.off gG),gG]
theorem mL{id:Nat}{x:Option Ob}(hg:G id=none):aR (o5 h G) id x=o5 (aR h id x) G:=by
 funext i;unfold o5 aR
 grind
theorem uG.aR(H:uG h G n){id:Nat}{x:Option Ob}(hg:G id=none):uG (aR h id x) G n:=by
 intro i hi;have e:i≠id:=fun e=>by grind
 have:=H i hi
 grind [aR]
theorem uG.sub(H:uG h G n)(hs: ∀i,h i=none->h' i=none):uG h' G n:=fun i hi=>⟨hs i (H i hi).1,(H i hi).2⟩
theorem uG.azm(H:uG h G n):Sub h (o5 h G):=fun id ob gG=>H.get gG
theorem FV(H:uG h G n){v v':V}(hg:oV h v=some (v',h1)):oV (o5 h G) v=some (v',o5 h1 G)/\uG h1 G n:=by
 unfold oV at hg⊢;split at hg
 ·rename_i id s l;cases gG:h id with
  |none=>grind
  |some ob=>
   simp only[gG]at hg;simp only[H.get gG];split at hg
   ·rename_i hc;rw[if_pos hc];obtain⟨rfl,rfl⟩:=hg;have:=H.off gG;exact⟨by rw[mL this],H.aR this⟩
   grind
 grind
theorem FW: ∀{cs rS:List V} {h h1:bh},uG h G n->gd h cs=some (rS,h1)->gd (o5 h G) cs=some (rS,o5 h1 G)/\uG h1 G n
 | [],rS,h,h1,H,hg=>by
  obtain⟨rfl,rfl⟩:=hg;exact⟨rfl,H⟩
 |c::cs,rS,h,h1,H,hg=>by
  simp only[gd]at hg⊢;split at hg
  case h_2=>grind
  rename_i c' h2 hc;obtain⟨e1,H1⟩:=FV H hc;split at hg
  case h_2=>grind
  rename_i cs2 h3 AF;obtain⟨e2,H2⟩:=FW H1 AF
  grind
theorem CI(H:uG h G n){v v':V}(hg:qs h v=some (v',h1)):qs (o5 h G) v=some (v',o5 h1 G)/\uG h1 G n:=by
 unfold qs at hg⊢;split at hg
 ·split at hg
  case h_2=>grind
  rename_i rS h2 hl;obtain⟨e,H1⟩:=FW H hl
  grind
 ·exact FV H hg
theorem FX: ∀{ps x9:List (Nat×V)} {h h1:bh},uG h G n->mG h ps=some (x9,h1)->mG (o5 h G) ps=some (x9,o5 h1 G)/\uG h1 G n
 | [],x9,h,h1,H,hg=>by
  obtain⟨rfl,rfl⟩:=hg;exact⟨rfl,H⟩
 |(i,c)::cs,x9,h,h1,H,hg=>by
  simp only[mG]at hg⊢;split at hg
  case h_2=>grind
  rename_i c' h2 hc;obtain⟨e1,H1⟩:=CI H hc;split at hg
  case h_2=>grind
  rename_i cs2 h3 AF;obtain⟨e2,H2⟩:=FX H1 AF
  grind
theorem AK: ∀{ps x9:List V} {h h1:bh},uG h G n->rL h ps=some (x9,h1)->rL (o5 h G) ps=some (x9,o5 h1 G)/\uG h1 G n
 | [],x9,h,h1,H,hg=>by
  obtain⟨rfl,rfl⟩:=hg;exact⟨rfl,H⟩
 |c::cs,x9,h,h1,H,hg=>by
  simp only[rL]at hg⊢;split at hg
  case h_2=>grind
  rename_i c' h2 hc;obtain⟨e1,H1⟩:=CI H hc;split at hg
  case h_2=>grind
  rename_i cs2 h3 AF;obtain⟨e2,H2⟩:=AK H1 AF
  grind
theorem xd(H:uG h G n){v:V}{r:List V×Bool}(he:elems h v=some r):elems (o5 h G) v=some r:=by
 unfold elems at he⊢;split at he
 ·omega
 ·rename_i id s l;cases gG:h id with
  |none=>grind
  |some ob=>simp only[gG]at he;simp only[H.get gG];omega
 ·omega
 omega
theorem AL: ∀{l:List (Option Nat)} {h:bh},uG h G n->(∀i,some i∈l->G i=none)->gr (o5 h G) l=o5 (gr h l) G/\uG (gr h l) G n
 | [],h,H,_=>⟨rfl,H⟩
 |none::l,h,H,hl=>AL (l:=l) H fun i hi=>hl i (ads _ hi)
 |some i::l,h,H,hl=>by
  obtain⟨e,H1⟩:=AL (l:=l) H fun i hi=>hl i (ads _ hi);have hg:=hl i (acT ..);simp only[gr];exact⟨by rw[e,mL hg],H1.aR hg⟩
theorem CJ{X:Env}{kp:TypeId->Bool}{R:V}: ∀{m:Mask} {k:Nat} {h:bh},(∀i,k<=i->G i=none)->xV X kp R k m (o5 h G)=o5 (xV X kp R k m h) G
 | [],k,h,_=>rfl
 |q::m,k,h,hk=>by
  simp only[xV];rw[CJ (fun i hi=>hk i (by omega)),mL (hk k (aaI _))]
theorem Qi{X:Env}{hx:bh}(H:uG h G n){t:TypeId}{c:V}(hr:(rowAt X h hx t c).isSome=true):rowAt X (o5 h G) hx t c=rowAt X h hx t c/\ ∀i,c.src=some i->G i=none:=by
 unfold rowAt at hr⊢;split at hr
 ·exact⟨rfl,fun i hi=>by simp[V.src]at hi⟩
 ·rename_i id s l;cases gG:h id with
  |none=>grind
  |some ob=>
   simp only[H.get gG];exact⟨trivial,fun i hi=>by simp only[V.src,aA]at hi;subst hi;exact H.off gG⟩
 grind
theorem AM{F F':Nat->V->V}: ∀{cs:List V} {k:Nat},(∀j c,cs[j]?=some c->F (k+j) c=F' (k+j) c)->rJ F k cs=rJ F' k cs
 | [],k,_=>rfl
 |c::cs,k,hc=>by
  have e1:F k c=F' k c:=by simpa using hc 0 c (by simp)
  have e2:rJ F (k+1) cs=rJ F' (k+1) cs:=AM fun j c' hj=>by
   have:=hc (j+1) c' (by grind)
   grind
  simp only[rJ,e1,e2]
theorem FY{F F':Nat->V->V}{v:V}(hv: ∀j,F j (v.cells.getD j .bad)=F' j (v.cells.getD j .bad)):uE F v=uE F' v:=by
 by_cases h: ∃cs,v= .agg cs
 ·obtain⟨cs,rfl⟩:=h;rw[yq,yq,AM fun j c hj=> ?_];have:=hv j;simpa[V.cells,aaQ,hj] using this
 ·have h': ∀cs,v≠ .agg cs:=fun cs e=>h ⟨cs,e⟩;rw[re F h',re F' h'];have:=hv 0;rw[mC h']at this
  grind
theorem Qj{F F':Nat->Nat->V->V}{v:V}(hv: ∀i j,F i j (v.cellAt i j)=F' i j (v.cellAt i j)):vf F v=vf F' v:=by
 by_cases h: ∃cs,v= .dP cs
 ·obtain⟨cs,rfl⟩:=h;rw[yu,yu,AM fun i c hi=> ?_];refine FY fun j=> ?_;have:=hv i j;simp only[V.cellAt,aaQ,hi,abV]at this
  grind
 ·have h': ∀cs,v≠ .dP cs:=fun cs e=>h ⟨cs,e⟩;rw[tY F h',tY F' h'];refine FY fun j=> ?_;have:=hv 0 j;have e:v.cellAt 0 j=v.cells.getD j .bad:=by
   cases v with
   |dP cs=>grind
   |_=>rfl
  grind
theorem Vi{X:Env}{hx:bh}(H:uG h G n){v R:V}{m:Mask}(hr:Bs X h hx v m=some R):Bs X (o5 h G) hx v m=some R/\ ∀i,some i∈iF v m->G i=none:=by
 unfold Bs at hr⊢;split at hr
 case isFalse=>grind
 rename_i hc;simp only[aaF]at hc;have jV: ∀q∈m,rowAt X (o5 h G) hx q.2.2 (v.cellAt q.1 q.2.1)=rowAt X h hx q.2.2 (v.cellAt q.1 q.2.1)/\ ∀i,(v.cellAt q.1 q.2.1).src=some i->G i=none:=fun q hq=>Qi H (List.all_eq_true.1 hc.2 q hq);have En:m.all (fun q=>(rowAt X (o5 h G) hx q.2.2 (v.cellAt q.1 q.2.1)).isSome)=true:=by
  rw[aaP];intro q hq;rw[(jV q hq).1];exact List.all_eq_true.1 hc.2 q hq
 refine⟨?_,fun i hi=> ?_⟩
 ·simp only[hc.1,En,Bool.and_self,if_true];rw[<-hr];congr 1;refine Qj fun i j=> ?_;unfold mI;cases hm:mS 0 m i j with
  |none=>rfl
  |some p=>
   obtain⟨_,hq⟩:=uL hm
   grind
 ·obtain⟨q,hq,he⟩:=List.mem_map.1 hi
  grind
end
section
variable {X:Env} {C:jm} {bZ:FuncId} {dst:Option Nat} {g:FuncId} {args:List V} {S S1:St} {G:bh}
theorem pW(S:St)(d:Option Nat)(v:V)(h:bh):({S.set d v with h:=h}:St)=({S with h:=h}:St).set d v:=by cases d<;>rfl
theorem ai6(H:uG S.h G S.n)(he:vj X C bZ dst g args S=some S1):vj X C bZ dst g args {S with h:=o5 S.h G}=some {S1 with h:=o5 S1.h G}:=by
 unfold vj at he⊢;split at he
 case h_2=>grind
 split at he
 case h_2=>grind
 rename_i ob gG;split at he
 case h_2=>grind
 rename_i e Zb;split at he
 case isFalse=>grind
 rename_i hk;split at he
 case h_2=>grind
 rename_i R hR;split at he
 case h_2=>grind
 rename_i bx7 h1 hg;split at he
 case h_2=>grind
 rename_i v h n hc;split at he
 case h_2=>grind
 rename_i kk r rs CD;simp only[aA]at he;subst he;have g0:=H.off gG;have H1:=H.aR (x:=none) g0;obtain⟨e2,Fm⟩:=Vi H1 hR;obtain⟨e3,H3⟩:=AL H1 Fm;obtain⟨e4,H4⟩:=AK H3 hg;simp only[H.get gG,Zb,hk,if_true,mL g0,e2,e3,e4,hc,CD];rw[pW,fm,CJ (fun i hi=>H.big hi)]
theorem Vj(H:uG S.h G S.n)(he:mT X C bZ dst g args S=some S1):mT X C bZ dst g args {S with h:=o5 S.h G}=some {S1 with h:=o5 S1.h G}:=by
 unfold mT at he⊢;split at he
 case h_2=>grind
 rename_i bx7 h1 hg;split at he
 case h_2=>grind
 rename_i v h n hc;split at he
 case h_2=>grind
 rename_i r hR;simp only[aA]at he;subst he;obtain⟨e4,H4⟩:=AK H hg;simp only[e4,hc,hR];rw[pW,fm,CJ (fun i hi=>H.big hi)]
theorem Vk(hO:o7 X C)(H:uG S.h G S.n)(he:gV X C bZ dst g args S=some S1):gV X C bZ dst g args {S with h:=o5 S.h G}=some {S1 with h:=o5 S1.h G}:=by
 unfold gV at he⊢;split at he
 ·split at he
  case h_2=>grind
  split at he
  case h_2=>grind
  rename_i es kx tw;split at he
  ·grind
  rename_i nc;simp only[aA]at he;subst he;simp only[xd H tw];rw[if_neg nc,pW,fm];simp only[St.new,mL (H.big (aaI _))]
 ·by_cases hf:(X.ie g&& !X.low g)=true
  ·simp only[hf,if_true]at he⊢;split at he
   case h_2=>grind
   rename_i v h n hc;simp only[aA]at he;subst he;have Eo:X.low g=false:=by simp only[aaF,aaZ]at hf;exact hf.2
   simp only[hO _ _ _ _ _ _ _ G Eo H hc];rw[pW,fm]
  simp only[hf,aaM,if_false]at he⊢;split at he
  ·rename_i Bm;rw[if_pos Bm];exact ai6 H he
  rename_i Bm;rw[if_neg Bm];split at he
  ·rename_i HX;rw[if_pos HX];exact Vj H he
  rename_i HX;rw[if_neg HX];split at he
  case h_2=>grind
  rename_i bx7 has;have azn:cF (args.map (cy (o5 S.h G) depth))=some bx7:=yz H.azm has;split at he
  ·rename_i oT;split at he
   case h_2=>grind
   rename_i v h n hc;split at he
   ·grind
   rename_i rV;simp only[aA]at he;subst he;have a8w:(fun id=>if id<S.n then o5 S.h G id else if args.any V.xU=true then kO (h id) else h id)=o5 (fun id=>if id<S.n then S.h id else if args.any V.xU=true then kO (h id) else h id) G:=by
    funext i;unfold o5;by_cases hi:i<S.n
    ·grind
    ·simp only[hi,if_false,H.big (adY hi)]
   simp only[azn,oT,if_true,hc];rw[if_neg rV,pW,fm,a8w]
  ·rename_i oT;split at he
   case h_2=>grind
   rename_i v h n hc;split at he
   case h_2=>grind
   rename_i v' KO;split at he
   ·grind
   rename_i nc;simp only[aA]at he;subst he;simp only[azn,oT,if_false,aaM,hc,KO];rw[if_neg nc,pW,fm]
theorem Vl{o:Oper}{ρ:Operand->V}{h h1:bh}{n n1 k:Nat}{v:V}(H:uG h G k)(hn:G n=none)(hc:cls X bZ o=3)(he:cI X bZ o ρ h n=some (v,h1,n1)):cI X bZ o ρ (o5 h G) n=some (v,o5 h1 G,n1):=by
 obtain⟨d,op,ty,pos,after,guard⟩:=o;cases op with
 |store t a x=>
  simp only[cI]at he⊢;split at he
  case h_2=>grind
  rename_i id i f ha;cases gG:h id with
  |none=>grind
  |some ob=>
   simp only[gG]at he;simp only[H.get gG];cases hkp:ob.eU with
   |true=>
    simp only[hkp,if_true]at he⊢;simp only[gG]at he;simp only[H.get gG];split at he
    case h_2=>grind
    split at he
    case isFalse=>grind
    rename_i s9;rw[if_pos s9];obtain⟨rfl,rfl,rfl⟩:=he;rw[mL (H.off gG)]
   |false=>
    simp only[hkp,if_false,aaM]at he⊢;split at he
    case h_2=>grind
    rename_i v' h2 hg;obtain⟨e1,H1⟩:=CI H hg;simp only[e1];cases azo:h2 id with
    |none=>grind
    |some ob2=>
     simp only[azo]at he;simp only[H1.get azo];split at he
     case h_2=>grind
     split at he
     case isFalse=>grind
     rename_i s9;rw[if_pos s9];obtain⟨rfl,rfl,rfl⟩:=he;rw[mL (H.off gG)]
 |buildSlice t m ps=>
  simp only[cI]at he⊢;split at he
  ·rename_i hk;simp only[cls,hk,if_true]at hc;omega
  ·rename_i hk;rw[if_neg hk];split at he
   ·rename_i wW;rw[if_pos wW];split at he
    case h_2=>grind
    rename_i l h2 hg;split at he
    case h_2=>grind
    grind
   rename_i wW;rw[if_neg wW];split at he
   case h_2=>grind
   rename_i l h2 hg;obtain⟨e1,H1⟩:=FX H hg;simp only[e1];split at he
   case h_2=>grind
   split at he
   ·rename_i oT;rw[if_pos oT];obtain⟨rfl,rfl,rfl⟩:=he;rw[mL hn]
   grind
 |call c=>
  obtain⟨U7,args,mH⟩:=c;cases U7 with
  |value x=>simp[cI]at he
  |builtin b=>
   cases b with
   |append=>
    simp only[cI]at he⊢;split at he
    case h_2=>grind
    rename_i s x jL;split at he
    case h_2=>grind
    rename_i es kb xs kx h5 h6;simp only[xd H h5,xd H h6];split at he
    ·grind
    rename_i EK;rw[if_neg EK];split at he
    case isFalse=>grind
    rename_i En;rw[if_pos En];split at he
    ·obtain⟨rfl,rfl,rfl⟩:=he;rw[mL hn]
    ·grind
    ·rename_i id _ _;cases gG:h id with
     |none=>grind
     |some ob=>
      simp only[gG]at he;simp only[H.get gG];split at he
      case isFalse=>grind
      rename_i Pw;rw[if_pos Pw];obtain⟨rfl,rfl,rfl⟩:=he;rw[mL (H.off gG),mL hn]
    grind
   |copy=>
    simp only[cI]at he⊢;split at he
    case h_2=>grind
    split at he
    case h_2=>grind
    rename_i ob xs kx h5 h6;simp only[H.get h5,xd H h6];split at he
    ·grind
    rename_i EK;rw[if_neg EK];split at he
    case isFalse=>grind
    rename_i En;rw[if_pos En];obtain⟨rfl,rfl,rfl⟩:=he;rw[mL (H.off h5)]
   |len|min|max=>exact absurd (show(0:Nat)=3 from hc) (by decide)
   |_=>simp[cI]at he
  |_=>simp[cI]at he
 |convert u0 u1 x0=>simp only[cls]at hc;grind
 |slice t x lo hi mx=>
  simp only[cls]at hc;split at hc
  case isFalse=>omega
  rename_i har;simp only[cI]at he⊢;split at he
  case isFalse=>grind
  rename_i wY;rw[if_pos wY];have Po: ∀{z:V},ρ x=z->z.Br=false->False:=fun{z} e hz=>by grind
  cases hx:ρ x with
  |ptr id i f=>
   simp only[hx]at he⊢;cases i with
   |succ i=>grind
   |zero=>
   cases f with
   |succ f=>grind
   |zero=>
   simp only at he⊢;cases gG:h id with
   |none=>grind
   |some ob=>
    rw[gG]at he;rw[H.get gG];split at he
    case h_2=>grind
    rename_i m oE ham e0;simp only[aA]at e0;split at he
    case h_2=>grind
    split at he
    case isFalse=>grind
    rename_i s9;obtain⟨rfl,rfl,rfl⟩:=he;rw[if_pos s9,mL (H.off gG)]
  |_=>exact(Po hx rfl).elim
 |move|assign|pick|build|nilCheck|binOp|unOp|makeFunc|fieldAddr|index|field|extract=>exact absurd (show(0:Nat)=3 from hc) (by decide)
 |load|indexAddr=>exact absurd (show(1:Nat)=3 from hc) (by decide)
 |alloc|box|makeSlice=>exact absurd (show(2:Nat)=3 from hc) (by decide)
 |_=>simp[cI]at he
theorem FZ{o:Oper}{S:St}{h h1:bh}{n n1 k:Nat}{v:V}(H:uG h G k)(hn:G n=none)(kz: ∀x args mH,o.op≠ .call ⟨.value x,args,mH⟩)(he:cI X bZ o S.ev h n=some (v,h1,n1)):cI X bZ o S.ev (o5 h G) n=some (v,o5 h1 G,n1):=by
 have hle:cls X bZ o=0\/cls X bZ o=1\/cls X bZ o=2\/cls X bZ o=3:=by
  unfold cls;repeat' split
  all_goals simp
 rcases hle with hc|hc|hc|hc
 ·obtain⟨e,hh⟩:=core0 (fun _=>rfl) hc he
  grind
 ·obtain⟨e,hh⟩:=Zi hc kz he;rw[e];have h2:=hh h n (fun _ _ x=>x);rw[he]at h2;simp only[aA,bM,true_and]at h2;rw[h2.2];exact hh _ _ H.azm
 ·obtain⟨ob,e,hh⟩:=aoe hc he;have h2:=hh h;rw[he]at h2;simp only[aA,bM,true_and]at h2;rw[e,h2.2,hh,mL hn]
 ·exact Vl H hn hc he
theorem CK(hO:o7 X C){n0 j:Nat}{o:Oper}(H:uG S.h G S.n)(hn:G (n0+j)=none)(he:fq X C bZ n0 j o S=some S1):fq X C bZ n0 j o {S with h:=o5 S.h G}=some {S1 with h:=o5 S1.h G}:=by
 unfold fq at he⊢;split at he
 ·have Cp:({S with h:=o5 S.h G}:St).ev=S.ev:=by funext y;cases y<;>rfl
  rw[Cp];split at he
  case h_2=>grind
  exact Vk hO H he
 ·rename_i kz;have Cp:({S with h:=o5 S.h G}:St).ev=S.ev:=by funext y;cases y<;>rfl
  rw[Cp];split at he
  case h_2=>grind
  rename_i v h1 n1 azp;simp only[aA]at he;subst he;simp only[FZ H hn kz azp];rw[pW,fm]
theorem Qk(hO:o7 X C){dc:List (Option Nat)}{n0 j:Nat}{o:Oper}(H:uG S.h G S.n)(hn:G (n0+j)=none)(he:stepG X C bZ dc n0 j o S=some S1):stepG X C bZ dc n0 j o {S with h:=o5 S.h G}=some {S1 with h:=o5 S1.h G}:=by
 unfold stepG at he⊢;split at he
 ·exact CK hO H hn he
 ·split at he
  case h_2=>grind
  split at he
  ·rename_i b hb;simp only[hb];split at he
   ·rename_i Zu;rw[if_pos Zu];exact CK hO H hn he
   ·rename_i Zu;rw[if_neg Zu];simp only[aA]at he;subst he;rw[pW,fm]
  ·rename_i hb;simp only[hb];simp only[aA]at he;subst he;rw[pW,fm]
  grind
theorem BH(hO:o7 X C)(hN:rh X C){dc:List (Option Nat)}{n0:Nat}: ∀{l:List Oper} {k:Nat} {S S1:St},uG S.h G n0->n0<=S.n->gM X C bZ dc n0 k l S=some S1->gM X C bZ dc n0 k l {S with h:=o5 S.h G}=some {S1 with h:=o5 S1.h G}
 | [],k,S,S1,H,hn,he=>by
  simp only[gM,aA]at he⊢
  grind
 |o::l,k,S,S1,H,hn,he=>by
  have hG:G (n0+k)=none:=H.big (by omega);have H0:uG S.h G S.n:=fun i hi=>⟨(H i hi).1,by have:=(H i hi).2;omega⟩;have two: ∀{S2:St},fq X C bZ n0 k o S=some S2->gM X C bZ dc n0 (k+1) l S2=some S1->fq X C bZ n0 k o {S with h:=o5 S.h G}=some {S2 with h:=o5 S2.h G}/\gM X C bZ dc n0 (k+1) l {S2 with h:=o5 S2.h G}=some {S1 with h:=o5 S1.h G}:=fun{S2} h1 h2=>by
   obtain⟨a1,a2⟩:=zF hN h1;exact⟨CK hO H0 hG h1,BH hO hN (fun i hi=>⟨a2 i (by grind) (by have:=(H i hi).2;omega) (H i hi).1,(H i hi).2⟩) (by omega) h2⟩
  have skip:gM X C bZ dc n0 (k+1) l (S.set o.dst (.dP []))=some S1->gM X C bZ dc n0 (k+1) l (({S with h:=o5 S.h G}:St).set o.dst (.dP []))=some {S1 with h:=o5 S1.h G}:=fun h3=>by
   have:=BH hO hN (S:=S.set o.dst (.dP [])) (by rw[fm];exact H) (by rw[hX];omega) h3;rw[pW,fm]at this;omega
  simp only[gM]at he⊢;split at he
  ·grind
  ·split at he
   case h_2=>grind
   split at he
   ·grind
   ·grind
   grind
theorem M6(hO:o7 X C)(hN:rh X C){ops:List Oper}{n0:Nat}{S0:St}{l:List (Nat×Nat)}(H:uG S0.h G n0)(hn:n0<=S0.n)(hs:lD X C bZ ops n0 S0 S1 l):
  lD X C bZ ops n0 {S0 with h:=o5 S0.h G} {S1 with h:=o5 S1.h G} l:=by
 intro q hq;rcases hs q hq with⟨o,h1,h2⟩|⟨o,T,v,h1,h2,h3,h4⟩
 ·exact .inl ⟨o,h1,h2⟩
 ·have hT:=FQ hN h2;refine .inr ⟨o,{T with h:=o5 T.h G},v,h1,BH hO hN H hn h2,?_,h4⟩;have HT:uG T.h G n0:=fun i hi=>⟨hT.2 i (by have:=(H i hi).2;omega) (by have:=(H i hi).2;omega) (H i hi).1,(H i hi).2⟩;refine FZ (S:=S1) HT (HT.big (by omega)) (fun x args mH e=> ?_) h3;obtain⟨dst,op,ty,pos,after,guard⟩:=o;subst e;simp[cI]at h3
end
def Zv(X:Env)(E:Ev):Prop:= ∀f c S e S1 G,X.low f=false->uG S.h G S.n->E f c S=some (e,S1)->E f c {S with h:=o5 S.h G}=some (e,{S1 with h:=o5 S1.h G})
def AN{α β:Type}{f g:α->Option β}: ∀(l:List α) {r:List β},cF (l.map f)=some r->(∀x y,f x=some y->g x=some y)->cF (l.map g)=some r
 | [],r,h,_=>h
 |a::l,r,h,hg=>by
  simp only[aaV]at h⊢;cases ha:f a with
  |none=>rw[ha]at h;simp[cF]at h
  |some b=>
   rw[ha]at h;rw[hg a b ha];simp only[cF]at h⊢;split at h
   case h_2=>cases h
   rename_i l' Ah;rw[AN l Ah hg];exact h
def Ak{X:Env}{E:Ev}(hE:Zv X E)(hN1: ∀f c S e S1,X.low f=false->E f c S=some (e,S1)-> ∀id,id<S.n->S.h id=none->S1.h id=none):o7 X (dC X E):=by
 intro g args h k v h' k' G hl H hc;unfold dC at hc⊢;have Ky:X.oS g=none:=by
  cases Ky:X.oS g with
  |none=>rfl
  |some pr=>grind
 simp only[Ky]at hc⊢;split at hc
 case h_2=>grind
 rename_i fn hf;split at hc
 case h_2=>grind
 rename_i b hb;cases he:E g b ⟨oH args,h,k⟩ with
 |none=>simp[he,vW]at hc
 |some x=>
  obtain⟨e,S1⟩:=x;have h1:=hE _ _ ⟨oH args,h,k⟩ _ _ G hl H he;have AB: ∀id ob,S1.h id=some ob->o5 S1.h G id=some ob:=fun id ob gG=>by
   cases hg:G id with
   |none=>rw[KS hg,gG]
   |some x=>
    have h3:=H id (by grind);have h4:=hN1 _ _ _ _ _ hl he id h3.2 h3.1
    grind
  have Ql: ∀{v:V},na X fn.results.toList S1=some v->na X fn.results.toList {S1 with h:=o5 S1.h G}=some v:=fun{v} hr=>by
   unfold na at hr⊢;split at hr
   ·rename_i v1 h2;rw[AN _ h2 fun x y hxy=> ?_]
    ·omega
    ·cases x with
     |tmp t=>omega
     |cell a t=>
      grind
   ·rename_i vs hvs h2;rw[AN _ h2 fun x y hxy=> ?_]
    ·grind
    ·cases x with
     |tmp t=>omega
     |cell a t=>
      grind
   grind
  rw[he]at hc;rw[h1];cases e with
  |exit i=>simp[vW]at hc
  |normal|ret=>
   simp only[vW]at hc⊢
   grind
def M7{X:Env}(hN:vo X)(n:Nat): ∀f c S e S1,X.low f=false->tu X n f c S=some (e,S1)-> ∀id,id<S.n->S.h id=none->S1.h id=none:=fun f c S e S1 hl he id h1 h2=>
 (yA hN n f c S e S1 S.n he (aaI _) (fun h=>by grind)).2 id h1 h2
def M8{X:Env}(hN:vo X): ∀n,Zv X (tu X n)
 |0=>fun f c S e S1 G _ _ he=>by simp[tu]at he
 |n+1=>by
  have ih:=M8 hN n;have hO:=Ak (X:=X) ih (M7 hN n);have hC:=vp (X:=X) (yA hN n);intro f c S e S1 G hl H he;have Po: ∀key,X.norm f key=none:=fun key=>by
   cases hk:X.norm f key with
   |none=>rfl
   |some N=>have:=(hN f key N hk).2.1;grind
  have hn: ∀key (S:St),oN X f key S=some S:=fun key S=>by unfold oN;grind
  have news: ∀{c:Code} {S S1:St} {e:Ex},tu X n f c S=some (e,S1)->uG S.h G S.n->uG S1.h G S1.n:=fun{c S S1 e} h1 h2=>by
   have h3:=yA hN n f c S e S1 S.n h1 (aaI _) (fun h=>by grind);exact fun i hi=>⟨h3.2 i (h2 i hi).2 (h2 i hi).1,by have:=(h2 i hi).2;omega⟩
  rw[tu]at he⊢;cases c with
  |skip|exit _|ret=>
   simp only[kq,aA,bM]at he⊢
   grind
  |region id ops d=>
   simp only[kq,hn]at he⊢;split at he
   case h_2=>grind
   rename_i S2 Cp;split at he
   case isFalse=>grind
   rename_i kH;obtain⟨rfl,rfl⟩:=he;have bjf:=BH hO hC (S:={S with n:=S.n+ops.size}) H (by simp) Cp;have Zw:=M6 hO hC (S0:={S with n:=S.n+ops.size}) H (by simp) kH
   grind
  |seq x y=>
   simp only[kq]at he⊢;cases hx:tu X n f x S with
   |none=>grind
   |some z=>
    obtain⟨e2,S2⟩:=z;rw[hx]at he;rw[ih _ _ _ _ _ G hl H hx];cases e2 with
    |normal=>exact ih _ _ _ _ _ G hl (news hx H) he
    |exit i|ret=>
     grind
  |cond x a b=>
   simp only[kq]at he⊢;have Cp:({S with h:=o5 S.h G}:St).ev x=S.ev x:=by cases x<;>rfl
   rw[Cp];split at he
   ·split at he
    ·rename_i hb;rw[if_pos hb];exact ih _ _ _ _ _ G hl H he
    ·rename_i hb;rw[if_neg hb];exact ih _ _ _ _ _ G hl H he
   grind
  |block i b=>
   simp only[kq]at he⊢;cases hx:tu X n f b S with
   |none=>grind
   |some z=>
    obtain⟨e2,S2⟩:=z;rw[hx]at he;rw[ih _ _ _ _ _ G hl H hx]
    grind
  |loop b=>
   simp only[kq,hn]at he⊢;cases hx:tu X n f b S with
   |none=>grind
   |some z=>
    obtain⟨e2,S2⟩:=z;rw[hx]at he;rw[ih _ _ _ _ _ G hl H hx];cases e2 with
    |normal=>exact ih _ _ _ _ _ G hl (news hx H) he
    |exit i|ret=>
     grind
  |_=>simp[kq]at he
def Zx{X:Env}(hN:vo X)(n:Nat):o7 X (dC X (tu X n)):=Ak (M8 hN n) (M7 hN n)
def Zy(L:List Oper):List (List Nat):=
 L.foldl (fun acc o=>acc++ [((o.after.toList.filter (Region.binds .any)).flatMap fun e=>e.on::acc.getD e.on []).eraseDups]) []
def wr(cl:List Nat)(p:Nat):Bool:=cl.getD p 0==3
def aoh(cl:List Nat)(B:List (List Nat))(j p:Nat):Bool:=
 (List.range cl.length).all fun w=> !wr cl w||((!(B.getD j []).contains w||decide (w<p))&& (!(B.getD w []).contains j||decide (p<=w)))
def azq(cl:List Nat)(B:List (List Nat))(j p:Nat):Bool:=
 decide (p<=j)&& (List.range cl.length).all fun w=>(!wr cl w||(decide (w<j)==decide (w<p)))&& (!(cl.getD w 0==2&&decide (p<=w)&&decide (w<j))||(B.getD j []).contains w)
def lp(X:Env)(bZ:FuncId)(id:Nat)(ops:Array Oper):Bool:=
 let L:=ops.toList;let B:=Zy L;let cl:=L.map (cls X bZ);let ds:=L.map (·.dst)
 X.P.follows .mixedOrders&&
 (List.range L.length).all fun j=>
  match L[j]? with
  |none=>true
  |some o=>
   let bj:=B.getD j []
   (o.after.toList.all fun e=> !Region.binds .any e||decide (e.on<j))&&
   (bj.all fun i=>decide (i<j)&&o.after.toList.any fun e=>Region.binds .any e&& (e.on==i||(B.getD e.on []).contains i))&&
   ((List.range j).all fun i=>(ds.getD i none==none||ds.getD i none !=o.dst)&&
    (!(wr cl j&&decide (2<=cl.getD i 0))||bj.contains i))&&
   ((o.looksAt ops).all fun t=>(List.range L.length).all fun k=>ds.getD k none !=some t||bj.contains k||((B.getD k []).contains j&& !(X.sZ bZ id).any fun q=>q.1==j))&&
   (!(cl.getD j 0==1)||(List.range (L.length+1)).all fun p=> !(p==0||wr cl (p-1))|| !aoh cl B j p||azq cl B j p||(X.sZ bZ id).contains (j,p))
structure aoi (X:Env) (bZ:FuncId) (id:Nat) (ops:Array Oper) (B:Nat->List Nat):Prop where
 mixed:X.P.follows .mixedOrders=true
 a8x: ∀j o e,ops.toList[j]?=some o->e∈o.after->Region.binds .any e=true->e.on<j
 lt: ∀j i,j<ops.size->i∈B j->i<j
 bef: ∀j o i,ops.toList[j]?=some o->i∈B j-> ∃e∈o.after,Region.binds .any e=true/\(e.on=i\/i∈B e.on)
 dst: ∀(i j:Nat) oi oj t,i<j->ops.toList[i]?=some oi->ops.toList[j]?=some oj->oi.dst=some t->oj.dst≠some t
 looks: ∀(j k:Nat) o ok t,ops.toList[j]?=some o->ops.toList[k]?=some ok->ok.dst=some t->t∈o.looksAt ops->k∈B j\/(j∈B k/\ ∀p,(j,p)∉X.sZ bZ id)
 ww: ∀(i j:Nat) oi oj,i<j->ops.toList[i]?=some oi->ops.toList[j]?=some oj->cls X bZ oj=3->2<=cls X bZ oi->i∈B j
 reads: ∀(j p:Nat) o,ops.toList[j]?=some o->cls X bZ o=1->p<=ops.size->(p=0\/ ∃ow,ops.toList[p-1]?=some ow/\cls X bZ ow=3)->
  (∀(w:Nat) ow,ops.toList[w]?=some ow->cls X bZ ow=3->(w∈B j->w<p)/\(j∈B w->p<=w))->
  (p<=j/\ ∀(w:Nat) ow,ops.toList[w]?=some ow->(cls X bZ ow=3->(w<j↔w<p))/\(cls X bZ ow=2->p<=w->w<j->w∈B j))\/(j,p)∈X.sZ bZ id
def CL{X:Env}{bZ:FuncId}{L:List Oper}{j:Nat}{o:Oper}(h:L[j]?=some o):(L.map (cls X bZ)).getD j 0=cls X bZ o:=by grind
def Zz{L:List Oper}{j:Nat}{o:Oper}(h:L[j]?=some o):(L.map (·.dst)).getD j none=o.dst:=by grind
def Qm{X:Env}{bZ:FuncId}{id:Nat}{ops:Array Oper}(h:lp X bZ id ops=true):aoi X bZ id ops (fun j=>(Zy ops.toList).getD j []):=by
 unfold lp at h;simp only[aaF]at h;obtain⟨hm,h⟩:=h;generalize Zy ops.toList=B at*;have hj: ∀(j:Nat) o,ops.toList[j]?=some o->_:=fun j o ho=>by
  have gZ:j<ops.toList.length:=(List.getElem?_eq_some_iff.1 ho).1;have:=List.all_eq_true.1 h j (List.mem_range.2 gZ);simp only[ho,aaF]at this;exact this
 have hlen:ops.toList.length=ops.size:=abZ;refine⟨hm,fun j o e ho he hb=> ?_,fun j i F2 hi=> ?_,fun j o i ho hi=> ?_,fun i j oi oj t mj hoi hoj Ty hdj=> ?_,fun j k o ok t ho ln hd hl=> ?_,fun i j oi oj mj hoi hoj h3 h2=> ?_,fun j p o ho hc hp hw hf=> ?_⟩
 ·have:=List.all_eq_true.1 (hj j o ho).1.1.1.1 e (by simpa using he);simpa[hb] using this
 ·have ho:ops.toList[j]?=some ops.toList[j]:=aaJ (by omega);have:=List.all_eq_true.1 (hj j _ ho).1.1.1.2 i hi;simp only[aaF,decide_eq_true_eq]at this;exact this.1
 ·have:=List.all_eq_true.1 (hj j o ho).1.1.1.2 i hi;simp only[aaF,decide_eq_true_eq,aeQ,acm,beq_iff_eq,acN]at this;obtain⟨_,e,he,hb,YP⟩:=this;exact⟨e,by simpa using he,hb,YP⟩
 ·have:=List.all_eq_true.1 (hj j oj hoj).1.1.2 i (List.mem_range.2 mj);simp only[aaF,Zz hoi]at this;have h1:=this.1;rw[Ty,hdj]at h1;simp at h1
 ·have hk:k<ops.toList.length:=(List.getElem?_eq_some_iff.1 ln).1;have:=List.all_eq_true.1 (List.all_eq_true.1 (hj j o ho).1.2 t hl) k (List.mem_range.2 hk);rw[Zz ln,hd]at this;simp only[bne_self_eq_false,aeO,acm,aaF,aaZ,acN,List.any_eq_false,beq_iff_eq]at this;rcases this with h1|⟨h1,h2⟩
  ·exact .inl h1
  ·exact .inr ⟨h1,fun p hp=>h2 (j,p) hp rfl⟩
 ·have:=List.all_eq_true.1 (hj j oj hoj).1.1.2 i (List.mem_range.2 mj);simp only[aaF,wr,CL hoi,CL hoj,h3]at this;have h1:=this.2;simpa[h2] using h1
 ·have:=(hj j o ho).2;simp only[CL ho,hc,beq_self_eq_true,aeB,aeO]at this;have:=List.all_eq_true.1 this p (List.mem_range.2 (by omega));simp only[acm,aaZ,acN]at this;rcases this with((h1|h1)|h1)|h1
  ·exfalso;rw[Bool.or_eq_false_iff]at h1;rcases hw with rfl|⟨ow,Cq,h3⟩
   ·simp at h1
   ·have:=h1.2;unfold wr at this;rw[CL Cq,h3]at this;cases this
  ·exfalso;rw[<-Bool.not_eq_true]at h1;apply h1;unfold aoh;rw[aaP];intro w Qb;rw[afi,abJ]at Qb;have Cq:ops.toList[w]?=some ops.toList[w]:=aaJ Qb;have hfw:=hf w _ Cq;simp only[wr,CL Cq,acm,aaZ,beq_eq_false_iff_ne,aaF,decide_eq_true_eq];by_cases Pw:cls X bZ ops.toList[w]=3
   ·right;obtain⟨g1,g2⟩:=hfw Pw;refine⟨?_,?_⟩
    ·by_cases Tt:w∈B.getD j []
     ·exact .inr (g1 Tt)
     ·left;simpa[acN] using Tt
    ·by_cases Tt:j∈B.getD w []
     ·exact .inr (g2 Tt)
     ·left;simpa[acN] using Tt
   ·left;exact Pw
  ·left;unfold azq at h1;simp only[aaF,decide_eq_true_eq]at h1;refine⟨h1.1,fun w ow Cq=> ?_⟩;have hwl:w<ops.toList.length:=(List.getElem?_eq_some_iff.1 Cq).1;have:=List.all_eq_true.1 h1.2 w (List.mem_range.2 (by simpa using hwl));simp only[aaF,wr,CL Cq,acm,aaZ]at this;refine⟨fun h3=> ?_,fun h2 F3 CH=> ?_⟩
   ·have:=this.1;simp only[h3,beq_self_eq_true,Bool.true_eq_false,false_or,beq_iff_eq,decide_eq_decide]at this;exact this
   ·have:=this.2;simpa[h2,F3,CH] using this
  ·exact .inr h1
structure Tr (X:Env) (C:jm) (bZ:FuncId) (id:Nat) (ops:Array Oper) (S F:St) (T:Nat->St) (B:Nat->List Nat):Prop where
 draw:aoi X bZ id ops B
 news:rh X C
 rW:o7 X C
 t0:T 0={S with n:=S.n+ops.size}
 tN:T ops.size=F
 step: ∀(k:Nat) o,ops.toList[k]?=some o->stepG X C bZ (ops.toList.map (·.dst)) S.n k o (T k)=some (T (k+1))
 pre: ∀p,p<=ops.size->gM X C bZ (ops.toList.map (·.dst)) S.n 0 (ops.toList.take p) {S with n:=S.n+ops.size}=some (T p)
 a8z:lD X C bZ ops.toList S.n {S with n:=S.n+ops.size} F (X.sZ bZ id)
 fresh: ∀i,S.n<=i->S.h i=none
section
variable {X:Env} {C:jm} {bZ:FuncId} {id:Nat} {ops:Array Oper} {S F:St} {T:Nat->St} {B:Nat->List Nat}
theorem Jx{k:Nat}(hk:k<ops.size):ops.toList[k]?=some ops.toList[k]:=aaJ (by omega)
theorem Jy{k:Nat}{o:Oper}(h:ops.toList[k]?=some o):k<ops.size:=by grind
theorem Tr.ai7(t:Tr X C bZ id ops S F T B): ∀k,k<=ops.size->S.n+ops.size<=(T k).n
 |0,_=>by rw[t.t0];grind
 |k+1,hk=>by
  have h1:=t.ai7 k (by omega);have:=(aog t.news (t.step k _ (Jx (by omega)))).1;omega
theorem Tr.AO(t:Tr X C bZ id ops S F T B): ∀m q,m<=q->q<ops.size->(T m).h (S.n+q)=none
 |0,q,_,hq=>by rw[t.t0];exact t.fresh _ (by omega)
 |m+1,q,hm,hq=>by
  have h1:=t.AO m q (by omega) hq;have h2:=t.ai7 m (by omega);exact(aog t.news (t.step m _ (Jx (by omega)))).2 _ (by omega) (by omega) h1
theorem ZA{S:St}{d:Option Nat}{v:V}{t:Nat}(h:d≠some t):(S.set d v).f t=S.f t:=by
 cases d with
 |none=>rfl
 |some x=>
  have:t≠x:=fun e=>h (by rw[e]);simp[St.set,aR,this]
theorem Qn{S:St}{d:Option Nat}{v:V}{t:Nat}(h:d=some t):(S.set d v).f t=v:=by
 subst h;simp[St.set,aR]
theorem Tr.asf(t:Tr X C bZ id ops S F T B){k:Nat}{o:Oper}(ho:ops.toList[k]?=some o){x:Nat}(hd:o.dst≠some x):(T (k+1)).f x=(T k).f x:=by
 obtain⟨v,h1,_⟩:=Qh (t.step k o ho);rw[h1,ZA hd]
theorem Tr.EN(t:Tr X C bZ id ops S F T B){x:Nat}{i:Nat}: ∀m,i<=m->m<=ops.size->(∀k o,i<=k->k<m->ops.toList[k]?=some o->o.dst≠some x)->(T m).f x=(T i).f x
 |0,hi,_,_=>by grind
 |m+1,hi,hm,hk=>by
  by_cases he:i=m+1
  ·rw[he]
  ·rw[t.asf (Jx (by omega)) (hk m _ (by omega) (by omega) (Jx (by omega)))];exact t.EN m (by omega) (by omega) fun k o h1 h2 h3=>hk k o h1 (by omega) h3
theorem Tr.Tz(t:Tr X C bZ id ops S F T B){k:Nat}{o:Oper}(ho:ops.toList[k]?=some o){x:Nat}(hd:o.dst=some x): ∀m,k<m->m<=ops.size->(T m).f x=F.f x:=by
 intro m hm hms;have hk:=Jy ho;have key: ∀m,k<m->m<=ops.size->(T m).f x=(T (k+1)).f x:=fun m hm hms=>t.EN m (by omega) hms fun i oi h1 h2 h3=>t.draw.dst k i o oi x (by omega) ho h3 hd;rw[<-t.tN,key m hm hms,key ops.size hk (aaI _)]
theorem Tr.Qo(t:Tr X C bZ id ops S F T B){x:Nat}(hx: ∀(k:Nat) o,ops.toList[k]?=some o->o.dst≠some x): ∀m,m<=ops.size->(T m).f x=S.f x:=by
 intro m hm;rw[t.EN (i:=0) m (by omega) hm fun k o _ _ h=>hx k o h,t.t0]
theorem Tr.quiet(t:Tr X C bZ id ops S F T B){p:Nat}: ∀m,p<=m->m<=ops.size->(∀k o,p<=k->k<m->ops.toList[k]?=some o->cls X bZ o≠3)->
  (T m).n=(T p).n/\(∀i,(∀(k:Nat) o,p<=k->k<m->ops.toList[k]?=some o->cls X bZ o=2->i≠S.n+k)->(T m).h i=(T p).h i)/\
   (∀(k:Nat) o,p<=k->k<m->ops.toList[k]?=some o->cls X bZ o=2->(T m).h (S.n+k)=(T (k+1)).h (S.n+k))
 |0,hp,_,_=>by grind
 |m+1,hp,hm,hw=>by
  by_cases he:p=m+1
  ·grind
  ·obtain⟨h1,h2,h3⟩:=t.quiet m (by omega) (by omega) fun k o g1 g2 g3=>hw k o g1 (by omega) g3;have ho:=Jx (ops:=ops) (k:=m) (by omega);have kH:=t.step m _ ho;generalize ops.toList[m]=o at*;have Pw:=hw m o (by omega) (by omega) ho;have pS:cls X bZ o=0\/cls X bZ o=1\/cls X bZ o=2:=by
    have:cls X bZ o<=3:=by
     unfold cls;repeat' split
     all_goals omega
    omega
   have same:(cls X bZ o=0\/cls X bZ o=1)->(T (m+1)).h=(T m).h/\(T (m+1)).n=(T m).n:=by
    rintro(hc|hc)
    ·obtain⟨v,e,_⟩:=Zr hc kH;rw[e,fm,hX];grind
    ·obtain⟨v,e,_⟩:=Zs hc kH;rw[e,fm,hX];grind
   by_cases En:cls X bZ o=2
   ·obtain⟨v,ob,e,_⟩:=Zt En kH;have hn:(T (m+1)).n=(T m).n:=by rw[e,hX]
    have hh: ∀i,i≠S.n+m->(T (m+1)).h i=(T m).h i:=by
     intro i hi;rw[e,fm];cases ob with
     |none=>rfl
     |some ob=>simp[BG,aR,hi]
    grind
   grind
end
open Classical in
noncomputable def SE(X:Env)(bZ:FuncId)(ops:Array Oper)(S F:St)(T:Nat->St)(E:Nat->Prop)(p:Nat):St:=
 {f:=fun x=>if∃k o,E k/\ops.toList[k]?=some o/\o.dst=some x then F.f x else S.f x
  h:=fun i=>if∃k o,i=S.n+k/\ops.toList[k]?=some o/\cls X bZ o=2/\E k/\p<=k then(T (i-S.n+1)).h i else(T p).h i
  n:=(T p).n}
structure Stg (X:Env) (bZ:FuncId) (ops:Array Oper) (B:Nat->List Nat) (E:Nat->Prop) (p:Nat):Prop where
 lt: ∀k,E k->k<ops.size
 closed: ∀k,E k-> ∀i∈B k,E i
 le:p<=ops.size
 last:p=0\/ ∃o,ops.toList[p-1]?=some o/\cls X bZ o=3
 iff: ∀(w:Nat) o,ops.toList[w]?=some o->cls X bZ o=3->(E w↔w<p)
section
variable {X:Env} {C:jm} {bZ:FuncId} {id:Nat} {ops:Array Oper} {S F:St} {T:Nat->St} {B:Nat->List Nat} {E:Nat->Prop} {p j:Nat} {o:Oper}
theorem EO(t:Tr X C bZ id ops S F T B)(g:Stg X bZ ops B E p)(ho:ops.toList[j]?=some o)(hb: ∀i∈B j,E i)(hnj: ¬E j){x:Nat}(hx:x∈o.looksAt ops):
  (SE X bZ ops S F T E p).f x=(T j).f x/\((∃p,(j,p)∈X.sZ bZ id)->F.f x=(T j).f x):=by
 have hj:=Jy ho;by_cases hk: ∃(k:Nat) (ok:Oper),ops.toList[k]?=some ok/\ok.dst=some x
 ·obtain⟨k,ok,ln,hd⟩:=hk;rcases t.draw.looks j k o ok x ho ln hd hx with U3|⟨hjb,kz⟩
  ·have hkj:=t.draw.lt j k hj U3;have hf:=t.Tz ln hd j hkj (by omega);refine⟨?_,fun _=>hf.symm⟩;simp only[SE];rw[if_pos ⟨k,ok,hb k U3,ln,hd⟩,hf]
  ·have hjk:=t.draw.lt k j (Jy ln) hjb;have only: ∀(i:Nat) oi,ops.toList[i]?=some oi->oi.dst=some x->i=k:=by
    intro i oi hi Ty;rcases adT i k with h|h|h
    ·exact absurd hd (t.draw.dst i k oi ok x h hi ln Ty)
    ·exact h
    ·exact absurd Ty (t.draw.dst k i ok oi x h ln hi hd)
   refine⟨?_,fun⟨p,hp⟩=>absurd hp (kz p)⟩;have h1:(T j).f x=S.f x:=by
    rw[t.EN (i:=0) j (by omega) (by omega) fun i oi _ h2 h3 h4=>by grind,t.t0]
   simp only[SE];rw[if_neg,h1];rintro⟨i,oi,hE,hi,Ty⟩;rw[only i oi hi Ty]at hE;exact hnj (g.closed k hE j hjb)
 ·have hn: ∀(k:Nat) ok,ops.toList[k]?=some ok->ok.dst≠some x:=fun k ok h1 h2=>hk ⟨k,ok,h1,h2⟩;have h1:=t.Qo hn j (by omega);have h2:=t.Qo hn ops.size (aaI _);rw[t.tN]at h2;refine⟨?_,fun _=>by grind⟩;simp only[SE]
  grind
theorem Jz{y:Operand}{x:Nat}(hy:y∈o.op.operands.toList)(e:y= .tmp x):x∈o.looksAt ops:=by
 subst e;exact List.mem_append_left _ (List.mem_filterMap.2 ⟨.tmp x,hy,rfl⟩)
theorem DH{i d:Nat}{want:Bool}(hg:o.guard=some (i,want))(hd:(ops.toList.map (·.dst))[i]?=some (some d)):d∈o.looksAt ops:=by
 refine List.mem_append_right _ ?_
 grind
theorem ai8(t:Tr X C bZ id ops S F T B)(g:Stg X bZ ops B E p)(ho:ops.toList[j]?=some o)(hb: ∀i∈B j,E i)(hnj: ¬E j):Iw (ops.toList.map (·.dst)) o (T j) (SE X bZ ops S F T E p):=by
 refine⟨fun y hy=> ?_,fun i want d hg hd=>(EO t g ho hb hnj (DH hg hd)).1⟩;cases y with
 |tmp x=>exact(EO t g ho hb hnj (Jz hy rfl)).1
 |_=>rfl
theorem M9(t:Tr X C bZ id ops S F T B)(ho:ops.toList[j]?=some o){A Y:St}{v:V}(hA:A.f=(SE X bZ ops S F T E p).f)(hv: ∀d,o.dst=some d->F.f d=v)(q:Nat):
  (A.set o.dst v).f=(SE X bZ ops S F T (fun k=>E k\/k=j) q).f:=by
 funext x;by_cases hd:o.dst=some x
 ·rw[Qn hd];simp only[SE]
  simp_all
 ·rw[ZA hd,hA];simp only[SE];have this:(∃(k:Nat) (o:Oper),E k/\ops.toList[k]?=some o/\o.dst=some x)↔(∃(k:Nat) (o:Oper),(E k\/k=j)/\ops.toList[k]?=some o/\o.dst=some x):=by
   constructor
   ·grind
   ·grind
  by_cases hc: ∃(k:Nat) (o:Oper),E k/\ops.toList[k]?=some o/\o.dst=some x
  ·simp_all
  grind
theorem xe(t:Tr X C bZ id ops S F T B)(ho:ops.toList[j]?=some o){Y:St}{v:V}(he:T (j+1)=Y.set o.dst v): ∀d,o.dst=some d->F.f d=v:=by
 intro d hd;have hj:=Jy ho;rw[<-t.Tz ho hd (j+1) (by omega) (by omega),he,Qn hd]
theorem AP{A Y:St}(h1:A.f=Y.f)(h2:A.h=Y.h)(h3:A.n=Y.n):A=Y:=by
 cases A;simp_all
theorem adv(t:Tr X C bZ id ops S F T B)(g:Stg X bZ ops B E p)(ho:ops.toList[j]?=some o)(hj: ¬E j)(hb: ∀i∈B j,E i):
  ∃p',Stg X bZ ops B (fun k=>E k\/k=j) p'/\stepG X C bZ (ops.toList.map (·.dst)) S.n j o (SE X bZ ops S F T E p)=some (SE X bZ ops S F T (fun k=>E k\/k=j) p'):=by
 have gZ:=Jy ho;have s8:=ai8 t g ho hb hj;have kH:=t.step j o ho;have uniq: ∀{ok:Oper},ops.toList[j]?=some ok->ok=o:=fun h=>by grind
 have ai0: ∀k,(E k\/k=j)->k<ops.size:=fun k hk=>by
  rcases hk with hk|rfl
  ·exact g.lt k hk
  omega
 have azt: ∀k,(E k\/k=j)-> ∀i∈B k,E i\/i=j:=fun k hk i hi=>by
  rcases hk with hk|rfl
  ·exact .inl (g.closed k hk i hi)
  grind
 have ZB: ∀k,E k->j∉B k:=fun k hk hjb=>hj (g.closed k hk j hjb);by_cases Pw:cls X bZ o=3
 ·
  have hW: ∀(w:Nat) ow,ops.toList[w]?=some ow->cls X bZ ow=3->(E w↔w<j):=by
   intro w ow Cq h3;constructor
   ·intro hw;rcases adT w j with h|h|h
    ·exact h
    ·grind
    ·exact absurd (t.draw.ww j w o ow h ho Cq h3 (by omega)) (ZB w hw)
   ·intro h;exact hb w (t.draw.ww w j ow o h Cq ho Pw (by omega))
  have hpj:p<=j:=by
   rcases g.last with h|⟨ow,Cq,h3⟩
   ·omega
   ·by_cases h0:p=0
    ·omega
    ·have:=(g.iff (p-1) ow Cq h3).2 (by omega)
     grind
  obtain⟨q1,q2,q3⟩:=t.quiet j hpj (by omega) fun k ok h1 h2 ln h3=>by
   have:=(hW k ok ln h3).2 h2;have:=(g.iff k ok ln h3).1 this;omega
  have hnj: ∀k,j<=k->k<ops.size->(T j).h (S.n+k)=none:=fun k h1 h2=>t.AO j k h1 h2
  classical
  have hG: ∃G:bh,(∀i,G i=if∃k o,i=S.n+k/\ops.toList[k]?=some o/\cls X bZ o=2/\E k/\j+1<=k then(T (i-S.n+1)).h i else none):=by
   exact⟨fun i=>if∃k o,i=S.n+k/\ops.toList[k]?=some o/\cls X bZ o=2/\E k/\j+1<=k then(T (i-S.n+1)).h i else none,fun _=>rfl⟩
  obtain⟨G,hG⟩:=hG;have hGn: ∀i,G i≠none-> ∃k,i=S.n+k/\j+1<=k/\k<ops.size/\ ∃o,ops.toList[k]?=some o/\cls X bZ o=2/\E k:=by
   intro i hi;rw[hG]at hi;split at hi
   ·grind
   ·grind
  have hh:(SE X bZ ops S F T E p).h=o5 (T j).h G:=by
   funext i;simp only[SE,o5];split
   ·rename_i hx;obtain⟨k,ok,rfl,ln,h2,hE,hpk⟩:=hx;have hkj:k≠j:=fun e=>by grind
    rcases aaR k j with h|h
    ·grind
    ·rw[hG,if_pos ⟨k,ok,rfl,ln,h2,hE,by omega⟩]
     grind
   ·rename_i hx;have hg0:G i=none:=by
     cases hz:G i with
     |none=>rfl
     |some y=>
      grind
    rw[hg0];rw[q2 i fun k ok h1 h2 ln h3 e=>hx ⟨k,ok,e,ln,h3,hb k (t.draw.ww k j ok o h2 ln ho Pw (by omega)),h1⟩]
  obtain⟨v,e1,e2⟩:=Qh kH;have a80:Stg X bZ ops B (fun k=>E k\/k=j) (j+1):=⟨ai0,azt,by omega,.inr ⟨o,by grind,Pw⟩,fun w ow Cq h3=>by grind⟩;have hh':(SE X bZ ops S F T (fun k=>E k\/k=j) (j+1)).h=o5 (T (j+1)).h G:=by
   funext i;simp only[SE,o5];by_cases hx: ∃k o,i=S.n+k/\ops.toList[k]?=some o/\cls X bZ o=2/\E k/\j+1<=k
   ·obtain⟨k,ok,rfl,ln,h2,hE,hk⟩:=hx;rw[if_pos ⟨k,ok,rfl,ln,h2,.inl hE,hk⟩,hG,if_pos ⟨k,ok,rfl,ln,h2,hE,hk⟩];cases hz:(T (S.n+k-S.n+1)).h (S.n+k) with
    |some y=>rfl
    |none=>
     rw[t.AO (j+1) k hk (g.lt k hE)]
   ·grind
  have Ps:(SE X bZ ops S F T (fun k=>E k\/k=j) (j+1)).n=(T (j+1)).n:=rfl;refine⟨j+1,a80,?_⟩;have hf:=M9 (A:={SE X bZ ops S F T E p with h:=(T (j+1)).h,n:=(T (j+1)).n}) (p:=p) (E:=E) (Y:=S) t ho rfl (xe t ho e1) (j+1);by_cases a82: ∀i,G i=none
  ·have eG: ∀h:bh,o5 h G=h:=fun h=>by funext i;exact KS (a82 i)
   rw[eG]at hh hh';rw[e2 _ s8 hh q1.symm];exact congrArg some (AP hf (by rw[fm,hh']) (by rw[hX,Ps]))
  ·
   have hN:uG (T j).h G (T j).n:=fun i hi=>by
    obtain⟨k,h1,h2,h3,_⟩:=hGn i hi;have:=t.ai7 j (by omega)
    grind
   have hGj:G (S.n+j)=none:=by
    cases hz:G (S.n+j) with
    |none=>rfl
    |some y=>
     grind
   have HZ:=Qk t.rW hN hGj kH;obtain⟨v2,e3,e4⟩:=Qh HZ;have ash:Iw (ops.toList.map (·.dst)) o {T j with h:=o5 (T j).h G} (SE X bZ ops S F T E p):=s8;rw[e4 _ ash hh q1.symm];have hv2: ∀d,o.dst=some d->v2=v:=by
    intro d hd;have h1:=congrArg (fun Z:St=>Z.f d) e3;have h2:=congrArg (fun Z:St=>Z.f d) e1;simp only[Qn hd]at h1 h2;rw[<-h1,<-h2]
   have ai3: ∀d,o.dst=some d->F.f d=v2:=fun d hd=>by rw[hv2 d hd];exact xe t ho e1 d hd
   have hf2:=M9 (A:={SE X bZ ops S F T E p with h:=o5 (T (j+1)).h G,n:=(T (j+1)).n}) (p:=p) (E:=E) (Y:=S) t ho rfl ai3 (j+1);exact congrArg some (AP hf2 (by rw[fm,hh']) (by rw[hX,Ps]))
 ·
  have yx:Stg X bZ ops B (fun k=>E k\/k=j) p:=⟨ai0,azt,g.le,g.last,fun w ow Cq h3=>by
   constructor
   ·rintro(h|h)
    ·exact(g.iff w ow Cq h3).1 h
    ·subst h;rw[uniq Cq]at h3;exact absurd h3 Pw
   ·intro h;exact .inl ((g.iff w ow Cq h3).2 h)⟩
  refine⟨p,yx,?_⟩;have Ps:(SE X bZ ops S F T (fun k=>E k\/k=j) p).n=(SE X bZ ops S F T E p).n:=rfl;have aok:cls X bZ o≠2->(SE X bZ ops S F T E p).h=(SE X bZ ops S F T (fun k=>E k\/k=j) p).h:=by
   intro En;funext i;simp only[SE];by_cases hc: ∃(k:Nat) (ok:Oper),i=S.n+k/\ops.toList[k]?=some ok/\cls X bZ ok=2/\E k/\p<=k
   ·obtain⟨k,ok,h1,h2,h3,h4,h5⟩:=hc;rw[if_pos ⟨k,ok,h1,h2,h3,h4,h5⟩,if_pos ⟨k,ok,h1,h2,h3,.inl h4,h5⟩]
   ·rw[if_neg hc,if_neg];rintro⟨k,ok,h1,h2,h3,h4|h4,h5⟩
    ·exact hc ⟨k,ok,h1,h2,h3,h4,h5⟩
    ·subst h4;rw[uniq h2]at h3;exact En h3
  have pS:cls X bZ o=0\/cls X bZ o=1\/cls X bZ o=2:=by
   have:cls X bZ o<=3:=by
    unfold cls;repeat' split
    all_goals omega
   omega
  rcases pS with hc|hc|hc
  ·obtain⟨v,e1,e2⟩:=Zr hc kH;rw[e2 _ s8];exact congrArg some (AP (M9 (Y:=S) t ho rfl (xe t ho e1) p) (by rw[fm,aok (by omega)]) (by rw[hX,Ps]))
  ·have fin: ∀v,(∀d,o.dst=some d->F.f d=v)->some ((SE X bZ ops S F T E p).set o.dst v)=some (SE X bZ ops S F T (fun k=>E k\/k=j) p):=fun v hv=>
    congrArg some (AP (M9 (Y:=S) t ho rfl hv p) (by rw[fm,aok (by omega)]) (by rw[hX,Ps]))
   have hWp: ∀(w:Nat) ow,ops.toList[w]?=some ow->cls X bZ ow=3->(w∈B j->w<p)/\(j∈B w->p<=w):=fun w ow Cq h3=>
    ⟨fun hm=>(g.iff w ow Cq h3).1 (hb w hm),fun hm=>by
     rcases aaR w p with h|h
     ·exact absurd hm (ZB w ((g.iff w ow Cq h3).2 h))
     ·exact h⟩
   rcases t.draw.reads j p o ho hc g.le g.last hWp with⟨hpj,azv⟩|asi
   ·obtain⟨q1,q2,q3⟩:=t.quiet j hpj (by omega) fun k ok h1 h2 ln h3=>by
     have:=((azv k ok ln).1 h3).1 h2;omega
    obtain⟨v,e1,e2⟩:=Zs hc kH;rw[e2 _ s8 ?_]
    ·exact fin v (xe t ho e1)
    ·intro i ob hi;simp only[SE];split
     ·rename_i hx;obtain⟨k,ok,rfl,ln,h2,hE,hpk⟩:=hx;rcases aaR k j with h|h
      ·rw[show S.n+k-S.n+1=k+1 by omega,<-q3 k ok hpk h ln h2];exact hi
      ·rw[t.AO j k h (g.lt k hE)]at hi;cases hi
     ·rename_i hx;rw[<-q2 i fun k ok h1 h2 ln h3 e=>hx ⟨k,ok,e,ln,h3,hb k ((azv k ok ln).2 h3 h1 h2),h1⟩];exact hi
   ·rcases t.a8z (j,p) asi with⟨o',h1,Qp⟩|⟨o',T',v',h1,h2,h3,h4⟩
    ·have eo:=uniq h1;subst eo;unfold I9 at Qp;cases hg:o'.guard with
     |none=>rw[hg]at Qp;exact absurd Qp (fun h=>h)
     |some gw=>
      obtain⟨jg,want⟩:=gw;rw[hg]at Qp;simp only at Qp;cases hd:(ops.toList.map (·.dst))[jg]? with
      |none=>rw[hd]at Qp;exact absurd Qp (fun h=>h)
      |some od=>
       cases od with
       |none=>rw[hd]at Qp;exact absurd Qp (fun h=>h)
       |some d=>
        rw[hd]at Qp;simp only at Qp;have hl:=EO t g ho hb hj (DH hg hd);rw[hl.2 ⟨p,asi⟩]at Qp;have e1:=FU (X:=X) (C:=C) (bZ:=bZ) (n0:=S.n) (k:=j) hg hd Qp;rw[kH]at e1;simp only[aA]at e1;rw[<-hl.1]at Qp;rw[FU hg hd Qp];exact fin _ (xe t ho e1)
    have eo:=uniq h1;subst eo;have eT:T'=T p:=by
     have:=t.pre p g.le;simp only at h2;rw[h2]at this;simpa using this
    subst eT;rcases qG kH with⟨g1,g2⟩|⟨g1,g2⟩
    ·rw[g2 _ s8];have kz: ∀x args mH,o'.op≠ .call ⟨.value x,args,mH⟩:=by
      intro x args mH e;simp[cI,e]at h3
     obtain⟨_,k2⟩:=Zi hc kz h3;have hcg: ∀y∈o'.op.operands.toList,(SE X bZ ops S F T E p).ev y=F.ev y:=by
      intro y hy;cases y with
      |tmp x=>
       have:=EO t g ho hb hj (Jz hy rfl);show(SE X bZ ops S F T E p).f x=F.f x;rw[this.1,this.2 ⟨p,asi⟩]
      |_=>rfl
     rw[pn kz,rf hcg,k2 (SE X bZ ops S F T E p).h (S.n+j) ?_]
     ·exact fin v' h4
     ·intro i ob hi;simp only[SE];split
      ·rename_i hx;obtain⟨k,ok,rfl,ln,h2,hE,hpk⟩:=hx;rw[t.AO p k hpk (g.lt k hE)]at hi;cases hi
      ·exact hi
    ·rw[g2 _ s8];exact fin _ (xe t ho g1)
  ·obtain⟨v,ob,e1,e2⟩:=Zt hc kH;rw[e2 _ s8];have hpj:p<=j:=by
    rcases g.last with h|⟨ow,Cq,h3⟩
    ·omega
    ·by_cases h0:p=0
     ·omega
     ·have hE:=(g.iff (p-1) ow Cq h3).2 (by omega);rcases adT (p-1) j with h|h|h
      ·omega
      ·rw[h]at hE;exact absurd hE hj
      ·exact absurd (t.draw.ww j (p-1) o ow h ho Cq h3 (by omega)) (ZB _ hE)
   refine congrArg some (AP (M9 (A:={SE X bZ ops S F T E p with h:=BG (SE X bZ ops S F T E p).h (S.n+j) ob}) (E:=E) (p:=p) (Y:=S) t ho rfl (xe t ho e1) p) ?_ (by rw[hX,Ps]));rw[fm];funext i;by_cases hi:i=S.n+j
   ·subst hi;have hR:(SE X bZ ops S F T (fun k=>E k\/k=j) p).h (S.n+j)=(T (j+1)).h (S.n+j):=by
     simp only[SE];rw[if_pos ⟨j,o,rfl,ho,hc,.inr rfl,hpj⟩,show S.n+j-S.n+1=j+1 by omega]
    have hL:(SE X bZ ops S F T E p).h (S.n+j)=none:=by
     simp only[SE];rw[if_neg,t.AO p j hpj gZ];rintro⟨k,ok,h1,_,_,h4,_⟩;have:k=j:=by omega
     subst this;exact hj h4
    rw[hR,e1,fm];cases ob with
    |none=>simp only[BG];rw[hL,t.AO j j (aaI _) gZ]
    |some ob=>simp[BG,aR]
   ·have:BG (SE X bZ ops S F T E p).h (S.n+j) ob i=(SE X bZ ops S F T E p).h i:=by
     cases ob with
     |none=>rfl
     |some ob=>simp[BG,aR,hi]
    show BG (SE X bZ ops S F T E p).h (S.n+j) ob i=_;rw[this];simp only[SE];by_cases s9: ∃(k:Nat) (ok:Oper),i=S.n+k/\ops.toList[k]?=some ok/\cls X bZ ok=2/\E k/\p<=k
    ·obtain⟨k,ok,h1,h2,h3,h4,h5⟩:=s9;rw[if_pos ⟨k,ok,h1,h2,h3,h4,h5⟩,if_pos ⟨k,ok,h1,h2,h3,.inl h4,h5⟩]
    ·rw[if_neg s9,if_neg];rintro⟨k,ok,h1,h2,h3,h4|h4,h5⟩
     ·exact s9 ⟨k,ok,h1,h2,h3,h4,h5⟩
     ·subst h4;exact hi h1
end
section
variable {X:Env} {C:jm} {bZ:FuncId} {id nt:Nat} {ops:Array Oper} {S F:St} {T:Nat->St} {B:Nat->List Nat}
theorem ZC(t:Tr X C bZ id ops S F T B){E:Nat->Prop}{p:Nat}(g:Stg X bZ ops B E p)(jV: ∀k,k<ops.size->E k):SE X bZ ops S F T E p=F:=by
 obtain⟨q1,q2,q3⟩:=t.quiet ops.size g.le (aaI _) fun k ok h1 h2 ln h3=>by
  have:=(g.iff k ok ln h3).1 (jV k h2);omega
 rw[t.tN]at q1 q2 q3;refine AP ?_ ?_ ?_
 ·funext x;simp only[SE];split
  ·rfl
  ·rename_i hx;have:=t.Qo (x:=x) (fun k o h1 h2=>hx ⟨k,o,jV k (Jy h1),h1,h2⟩) ops.size (aaI _);rw[t.tN]at this
   grind
 ·funext i;simp only[SE];split
  ·grind
  grind
 ·exact q1.symm
theorem ai9 (hC:qY X C) (hK:uK X) (hG: ∀bZ dst g args S S1,gV X C bZ dst g args S=some S1->wc X g) (hB: ∀o∈ops.toList,UR X nt o=true) (t:Tr X C bZ id ops S F T B)
    {I:Nat->Prop} {σ:ju} (hQ: ∀a' w',Qf nt S.n w I σ S.h F a' w'->Q .normal a' w'):
  ∀(fuel:Nat) (nf:Array Bool) (E:Nat->Prop) (p:Nat) (U:List Nat) (a':Act) (w':World) (I':Nat->Prop) (σ':ju),nf.size=ops.size->(∀k,E k↔nf.getD k false=true)->Stg X bZ ops B E p->
   U.Nodup->U.length=fuel->(∀k,k<ops.size->(¬E k↔k∈U))->
   Step w I σ S.h S.n w' I' σ' (SE X bZ ops S F T E p).h (SE X bZ ops S F T E p).n->jw w' I' σ' (SE X bZ ops S F T E p).f a'->lV σ' (SE X bZ ops S F T E p).h (SE X bZ ops S F T E p).n->nt<=a'.tmps.size->a'.defers=[]->
   (∀q,q<ops.size-> ¬E q->(SE X bZ ops S F T E p).h (S.n+q)=none/\σ' (S.n+q)=none)->
   wpAny X.P .any ops Q fuel nf a' w':=by
 have asj: ∀{nf:Array Bool} {E:Nat->Prop},nf.size=ops.size->(∀k,E k↔nf.getD k false=true)->Region.ready .any ops nf=[]-> ∀k,k<ops.size->E k:=by
  intro nf E hs hE hr k;induction k using Nat.strongRecOn with
  |_ k ih=>
   intro hk;by_cases hEk:E k
   ·omega
   ·have ho:=Jx (ops:=ops) hk;have MS:k∈Region.ready .any ops nf:=by
     rw[mem_ready];have hl:nf.getD k false=false:=by
      have:=mt (hE k).2 hEk;simpa using this
     refine⟨?_,ops.toList[k],by grind,fun e he hb=> ?_⟩
     ·grind
     ·have gZ:=t.draw.a8x k _ e ho he hb
      grind
    grind
 have fin: ∀{E:Nat->Prop} {p:Nat} {a':Act} {w':World} {I':Nat->Prop} {σ':ju},Stg X bZ ops B E p->(∀k,k<ops.size->E k)->Step w I σ S.h S.n w' I' σ' (SE X bZ ops S F T E p).h (SE X bZ ops S F T E p).n->jw w' I' σ' (SE X bZ ops S F T E p).f a'->
   lV σ' (SE X bZ ops S F T E p).h (SE X bZ ops S F T E p).n->nt<=a'.tmps.size->a'.defers=[]->Q .normal a' w':=by
  intro E p a' w' I' σ' g jV kH hF nU hs hd;rw[ZC t g jV]at kH hF nU;exact hQ a' w' ⟨I',σ',kH.le,kH,hF,nU,hs,hd⟩
 intro fuel;induction fuel with
 |zero=>
  intro nf E p U a' w' I' σ' hls hE g hnd hU hUE kH hF nU hs hd hq;have jV: ∀k,k<ops.size->E k:=fun k hk=>by grind
  refine⟨?_,fin g jV kH hF nU hs hd⟩;cases hr:Region.ready .any ops nf with
  |nil=>rfl
  |cons k r=>
   have hm:k∈Region.ready .any ops nf:=by rw[hr];simp
   rw[mem_ready]at hm
   grind
 |succ fuel ih=>
  intro nf E p U a' w' I' σ' hls hE g hnd hU hUE kH hF nU hs hd hq;refine⟨fun hr=>fin g (asj hls hE hr) kH hF nU hs hd,fun j hj=> ?_⟩;rw[mem_ready]at hj;obtain⟨h1,o,hoa,asm⟩:=hj;have tI:j<ops.size:=(Array.getElem?_eq_some_iff.1 hoa).1;have ho:ops.toList[j]?=some o:=by rw[acM];exact hoa
  have L6:nf[j]?=some (nf[j]'(by omega)):=by simp[hls,tI]
  have hEj: ¬E j:=fun h=>by grind
  have hb: ∀i∈B j,E i:=fun i hi=>by
   obtain⟨e,he,X6,YP⟩:=t.draw.bef j o i ho hi;have hEe:=(hE e.on).2 (asm e he X6);rcases YP with rfl|YP
   ·omega
   ·exact g.closed _ hEe i YP
  obtain⟨p',g',yB⟩:=adv t g ho hEj hb;have hoB:UR X nt o=true:=hB o (by grind);have Zf: ∀x,o.dst=some x->x<a'.tmps.size:=fun x hx=>abY (Tv hoB x hx) hs;have hE': ∀k,(E k\/k=j)↔(nf.setIfInBounds j true).getD k false=true:=by
   intro k;rw[abH];by_cases hkj:k=j
   ·grind
   ·have:=hE k;rw[abH]at this
    grind
  have hjU:j∈U:=(hUE j tI).1 hEj;have a85: ∀k,k<ops.size->(¬(E k\/k=j)↔k∈U.erase j):=by
   intro k hk;rw[hnd.mem_erase_iff,<-hUE k hk];constructor
   ·grind
   ·grind
  have Mq:S.n+ops.size<=(SE X bZ ops S F T E p).n:=t.ai7 p g.le;have next: ∀(a2:Act) (w2:World) (I2:Nat->Prop) (σ2:ju),Step w I σ S.h S.n w2 I2 σ2 (SE X bZ ops S F T (fun k=>E k\/k=j) p').h (SE X bZ ops S F T (fun k=>E k\/k=j) p').n->jw w2 I2 σ2 (SE X bZ ops S F T (fun k=>E k\/k=j) p').f a2->
    lV σ2 (SE X bZ ops S F T (fun k=>E k\/k=j) p').h (SE X bZ ops S F T (fun k=>E k\/k=j) p').n->nt<=a2.tmps.size->a2.defers=[]->
    (∀q,q<ops.size-> ¬(E q\/q=j)->(SE X bZ ops S F T (fun k=>E k\/k=j) p').h (S.n+q)=none/\σ2 (S.n+q)=none)->wpAny X.P .any ops Q fuel (nf.setIfInBounds j true) a2 w2:=
   fun a2 w2 I2 σ2 k1 k2 k3 k4 k5 k6=>ih _ _ p' (U.erase j) a2 w2 I2 σ2 (by grind) hE' g' (hnd.erase j) (by grind) a85 k1 k2 k3 k4 k5 k6
  generalize SE X bZ ops S F T (fun k=>E k\/k=j) p'=Z at*;generalize SE X bZ ops S F T E p=A at*;unfold wpOp;simp only[hoa];have run:fq X C bZ S.n j o A=some Z->o.wp X.P a' w' (wpAny X.P .any ops Q fuel (nf.setIfInBounds j true)) Q:=by
   intro qQ;refine Oper.wp_mono (fun a2 w2 hh=> ?_) (MW hC hK hG hoB qQ kH.rel hF nU (hq j tI hEj).1 (hq j tI hEj).2 (by omega) Q);obtain⟨u,v,I2,σ2,rfl,mK,hf,Zw,hle,a86,Qa⟩:=hh;exact next _ _ I2 σ2 (kH.join Zw (aaI _) hle) ((hF.ext Zw.ext).ai4 mK o.dst Zf hf) a86 (by rw[BE];omega) (by rw[put_defers];omega)
    fun q hq1 hq2=>Qa q (fun e=>hq2 (.inr e)) (by omega) (hq q hq1 fun e=>hq2 (.inl e)).1 (hq q hq1 fun e=>hq2 (.inl e)).2
  have skip:A.set o.dst (.dP [])=Z->wpAny X.P .any ops Q fuel (nf.setIfInBounds j true) (a'.put o.dst undef) w':=by
   intro qQ;subst qQ;refine next _ _ I' σ' (by rw[fm,hX];omega) (hF.ai4 Jr o.dst Zf rfl) (by rw[fm,hX];omega) (by rw[BE];exact hs) (by rw[put_defers];exact hd) fun q hq1 hq2=> ?_;rw[fm];exact hq q hq1 fun e=>hq2 (.inl e)
  unfold stepG at yB;split at yB
  ·rename_i hg;have hw:Region.wanted o (yielded ops a'.tmps)=true:=by simp[Region.wanted,hg]
   simp only[hw,if_true];exact .inl (run yB)
  ·rename_i i want hg;split at yB
   case h_2=>cases yB
   rename_i d EM;have Qb:=FM hF hg EM;split at yB
   ·rename_i b H7;have hw:=Qb.1 b H7;split at yB
    ·rename_i Zu;subst Zu;rw[beq_self_eq_true]at hw;simp only[hw,if_true];exact .inl (run yB)
    ·rename_i Zu;have:(b==want)=false:=by simpa using Zu
     rw[this]at hw;simp only[hw,aaM,if_false];exact skip (by simpa using yB)
   ·rename_i H7;have hw:=Qb.2 H7;simp only[hw,aaM,if_false];exact skip (by simpa using yB)
   ·cases yB
theorem asn(X:Env):Qg X (lp X):=by
 intro C hC hN hV hK hG bZ id nt ops S F hB cx Cp azx a w I σ R hF nU hs hd Q hQ;obtain⟨T,h0,hn,a87,kH⟩:=trace Cp;have hlen:ops.toList.length=ops.size:=abZ;have t:Tr X C bZ id ops S F T (fun j=>(Zy ops.toList).getD j []):=
  ⟨Qm cx,hN,hV,h0,by omega,kH,fun p hp=>a87 p (by omega),azx,fun i hi=>(nU i hi).1⟩
 refine wp_region_any t.draw.mixed ?_;have g:Stg X bZ ops (fun j=>(Zy ops.toList).getD j []) (fun _=>False) 0:=⟨fun _ h=>h.elim,fun _ h=>h.elim,by omega,.inl rfl,fun w o _ _=>⟨fun h=>h.elim,fun h=>by omega⟩⟩;have hSE:SE X bZ ops S F T (fun _=>False) 0={S with n:=S.n+ops.size}:=by
  refine AP ?_ ?_ ?_
  ·funext x;simp only[SE]
   grind
  ·funext i;simp only[SE]
   simp_all
  ·simp only[SE];rw[h0]
 have aol:=Step.drew R S.n;refine ai9 hC hK hG hB t (w:=w) (I:=I) (σ:=σ) hQ ops.size _ (fun _=>False) 0 (List.range ops.size) a w.drew I σ (by simp) (fun k=> ?_) g List.nodup_range (by simp) (fun k hk=>by grind) ?_ ?_ ?_ hs hd ?_
 ·constructor
  ·grind
  ·intro h;rw[abH,Array.getElem?_replicate]at h
   grind
 ·rw[hSE];exact aol.Ts (aaI _) (by simp)
 ·rw[hSE];exact hF.ext aol.ext
 ·rw[hSE];exact fun i hi=>nU i (by grind)
 ·intro q _ _;rw[hSE];exact nU _ (by omega)
end
structure Is (o:Oper) (d:Nat) (op:Op):Prop where
 dst:o.dst=some d
 op:o.op=op
 guard:o.guard=none
def Vm(i0 i1 i2 i3:Nat)(a b c d e f g h:Oper):Code:=
 .seq (.region i0 #[a] false) (.seq (.seq (.region i1 #[b,c] false) (.cond (.tmp 4) (.seq (.region i2 #[d] false) .ret) .skip)) (.seq (.region i3 #[e,f,g,h] false) .ret))
structure EP (X:Env) (g:FuncId) (t:TypeId):Prop where
 slice:X.P.underlying t=some (.slice (X.ti t).elem)
 elem:tB X (X.ti t).elem=true
 body: ∃fn ty X7 i0 i1 i2 i3 oa ob oc od oe of og oh,X.P.funcs[g]?=some fn/\fn.body=some (Vm i0 i1 i2 i3 oa ob oc od oe of og oh)/\fn.ntmps=8/\fn.results= #[.tmp 2]/\(fn.name== "runtime.NumGoroutine")=false/\
  Is oa 2 (.assign (.const (.slice none 0 0)))/\Is ob 3 (.move (.tmp 0))/\Is oc 4 (.binOp .eql t (.tmp 3) (.const (.slice none 0 0)) ty)/\Is od 2 (.assign (.const (.slice none 0 0)))/\
  Is oe 5 (.buildSlice t 0 #[])/\Is of 6 (.move (.tmp 0))/\Is og 7 (.call ⟨.builtin .append,#[.tmp 5,.tmp 6],#[t,X7]⟩)/\X7=t/\Is oh 2 (.assign (.tmp 7))
def nE {P:Program} {ops:Array Oper}  {i d:Nat} {rest:List Nat} {a:Act}  {o:Oper} {op:Op} {v:Value} (ho:Is o d op) (hi:ops[i]?=some o)
  (hr:(execOp a.eval o).run P w= .ok (.value v) w') (hn:wpOps P ops Q rest (a.put (some d) v) w'):wpOps P ops Q (i::rest) a w:=by
 simp only[wpOps,hi,Region.wanted,ho.guard,if_true];left;unfold Oper.wp;rw[hr];simp only[Oper.upon,ho.dst];omega
def Step.alloc{w:World}{I:Nat->Prop}{σ:ju}{h:bh}(R:Rel w I σ h)(ob:Obj)(n:Nat):Step w I σ h n (w.alloc ob) I σ h n:=
 ⟨Ext.alloc R.eu ob,R.alloc ob,rfl,rfl,rfl,by simp_all,fun b hb _=>PT w ob b hb,fun _ hb=> .inr hb,fun _ hb=> .inl hb,aaI _,fun _ _=>rfl,fun _ _ hn=>hn⟩
def ZD{X:Env}(pS: ∀g t,X.clone g=some t->EP X g t)(hP:FE X):uK X:=by
 refine⟨hP,?_⟩;intro g t hg w I σ h n s u es kx kp R hn hs hr he Iu YO hl hb hm;obtain⟨hu,hT,fn,ty,X7,i0,i1,i2,i3,oa,ob,oc,od,oe,of,og,oh,hf,ZE,Cz,Ql,_,ha,wT,hc,hd,hee,hff,hgg,rfl,hh⟩:=pS g t hg;have T:=lU hT;have Qe: ∃ad l cap,u= .slice ad l cap/\l=es.length/\(ad=none->es=[]):=by
  cases s with
  |sl c Aj=>
   obtain⟨rfl,_⟩:=he;obtain⟨ad,cap,rfl,_,_,_,h4⟩:=hr
   grind
  |cx id st l=>
   simp only[elems]at he;cases gG:h id with
   |none=>grind
   |some oE=>
    simp only[gG]at he;split at he
    case isFalse=>grind
    obtain⟨rfl,_⟩:=he;have hlen:((oE.es.drop st).take l).length=l:=by simp;omega
    obtain⟨ad,cap,rfl,B⟩:=MF R hr gG;refine⟨ad,l,cap,rfl,hlen.symm,fun h=> ?_⟩;rcases B.place with hp|⟨b,o,c,el,_,XU,_⟩
    ·apply abT;have:=B.le;omega
    grind
  |str x=>cases Iu
  |_=>simp[elems]at he
 obtain⟨ad,l,cap,rfl,rfl,FO⟩:=Qe;have hxi:=KM (h:=h) (v:=s) he R hl;have huk:(∃e',X.P.underlying X7=some (.slice e'))\/X.P.underlying X7=some .string:= .inl ⟨_,hu⟩;refine calls_of_wp hf ZE ?_;rw[Cz];have h0:(#[Value.slice ad es.length cap]++Array.replicate (8- #[Value.slice ad es.length cap].size) undef)= #[.slice ad es.length cap,undef,undef,undef,undef,undef,undef,undef]:=rfl;refine wp_seq (wp_region ?_);refine nE (i:=0) ha rfl (v:= .slice none 0 0) (w':=w) (by simp[execOp,ha.op,Act.eval]) ?_;refine wp_seq (wp_seq (wp_region ?_));refine nE (i:=0) wT rfl (v:= .slice ad es.length cap) (w':=w) (by simp[execOp,wT.op,Act.eval,Act.put]) ?_;refine nE (i:=1) hc rfl (v:= .bool ad.isNone) (w':=w) ?_ ?_
 ·have h1:=Go.Lib.run_eql_slice_nil (P:=X.P) w X7 _ ad es.length cap 0 0 hu;simp[execOp,hc.op,Act.eval,Act.put,eqGuard,h1]
 cases ad with
 |none=>
  have Jm:=FO rfl;subst Jm;refine wp_cond_true (by simp[Act.eval,Act.put]) ?_;refine wp_seq (wp_region ?_);refine nE (i:=0) hd rfl (v:= .slice none 0 0) (w':=w) (by simp[execOp,hd.op,Act.eval]) ?_;refine wp_ret ?_;refine⟨rfl,.slice none 0 0,?_,.slice none 0 0,σ,rfl,Step.nil R hn hs,?_⟩
  ·simp[results,Ql,Act.put]
  ·exact⟨none,0,rfl,by simp,by omega,.inl rfl⟩
 |some ad=>
  refine wp_cond_false (by simp[Act.eval,Act.put]) ?_;refine wp_skip ?_;refine wp_seq (wp_region ?_);obtain⟨us,XZ,_,_,_⟩:=tW (X:=X) (t:=X7) (n:=0) hu T (by simp) (ps:=[]) (es:=[]) (Em:= #[]) (w:=w) (J:=I) (τ:=σ) (by simp[iO]) (by simp) (by simp[qD]);refine nE (i:=0) hee rfl (v:= .slice (some ⟨w.heap.size,0,none⟩) 0 0) (w':=w.alloc (.cells us (X.ti X7).elem)) (by simp[execOp,hee.op,XZ]) ?_;refine nE (i:=1) hff rfl (v:= .slice (some ad) es.length cap) (w':=w.alloc (.cells us (X.ti X7).elem)) (by simp[execOp,hff.op,Act.eval,Act.put]) ?_;have s1:=Step.alloc R (.cells us (X.ti X7).elem) n;obtain⟨news,Fm,hnr⟩:=Tn huk s1.rel (hr.ext s1.ext) he hl hxi;have LY:dD (w.alloc (.cells us (X.ti X7).elem)) I σ (.sl true []) (.slice (some ⟨w.heap.size,0,none⟩) 0 0):=by
   simp only[dD];exact⟨some ⟨w.heap.size,0,none⟩,0,rfl,by simp,by omega,fun _=>rfl,.inl trivial⟩
  obtain⟨v,w',σ',h1,h2,h3⟩:=ym (ty:=og.type) (kp:=kp) s1.rel hu T LY YO hl Fm hnr hn hs hb hm;refine nE (i:=2) hgg rfl (v:=v) (w':=w') (by simp[execOp,hgg.op,Act.eval,Act.put,resolve,invoke,builtin,h1]) ?_;refine nE (i:=3) hh rfl (v:=v) (w':=w') (by simp[execOp,hh.op,Act.eval,Act.put]) ?_;refine wp_ret ?_;refine⟨rfl,v,?_,v,σ',rfl,s1.trans h2,h3⟩;simp[results,Ql,Act.put]
def Qq{X:Env}(pS: ∀g t,X.clone g=some t->EP X g t): ∀g t,X.clone g=some t->wc X g:=by
 intro g t hg;obtain⟨_,_,fn,ty,X7,i0,i1,i2,i3,oa,ob,oc,od,oe,of,og,oh,hf,ZE,_,_,be7,_⟩:=pS g t hg;exact⟨fn,_,hf,ZE,by omega⟩
def okB(X:Env)(a n:Nat):Bool:=(List.range' a n).all fun g=>match X.P.funcs[g]? with|some fn=>(X.oS g).isSome||fnB X (lp X) g fn|none=>true
def jn{X:Env}{a n g:Nat}{fn:Func}(h:okB X a n=true)(h1:a<=g)(h2:g<a+n)(hf:X.P.funcs[g]?=some fn)(hp:X.oS g=none):fnB X (lp X) g fn=true:=by
 have:=List.all_eq_true.1 h g (List.mem_range'_1.2 ⟨h1,h2⟩)
 grind
def Vn{X:Env}(hA:Jv X (lp X))(hN:vo X)(pS: ∀g t,X.clone g=some t->EP X g t)(hP:FE X)(hPG: ∀g,(X.oS g).isSome=true->wc X g):qY X (cL X):=
 Zq hA hN (ZD pS hP) (fun g hg=>by
  cases hc:X.clone g with
  |some t=>exact Qq pS g t hc
  |none=>grind) (asn X) (Zx hN)
end Go.Abs
