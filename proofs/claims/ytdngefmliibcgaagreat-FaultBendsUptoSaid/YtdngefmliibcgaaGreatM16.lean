/- Part of a proof: G7. -/
import Derived.Test.YtdngefmliibcgaaGreatM07
import Derived.Test.YtdngefmliibcgaaGreatM08
import Derived.Test.YtdngefmliibcgaaGreatM13
import Derived.Test.YtdngefmliibcgaaGreatM14
import Derived.Test.YtdngefmliibcgaaGreatM15
set_option linter.all false
set_option maxRecDepth 20000
set_option maxHeartbeats 20000000
namespace Go.Proofs.YtdngefmliibcgaaGreat
open Go Go.Abs Go.Abs.fJ
theorem cL.R{l:List Cell}(h:cL l):s9 l:=fun i hi=>by
 obtain⟨h1,h2⟩:=h.at hi;exact⟨h1.1,h2⟩
theorem cp.R{p:Prog}{c:Int}{m:aJ}(h:cp p c m):AO m:=by
 refine⟨h.key,h.mem.cells.R,fun i hi=> ?_,fun i hi=>(h.ph i hi).cells.R,fun i hi=>(h.ph i hi).code⟩;have g:=h.mem.line i;have e:cf m.memory i=m.memory.lines[i]:=by unfold cf;simp[List.getD,hi]
 rw[e]at g;exact g.R
theorem rK{p:Prog}{t:Nat}{upto:Int}: ∀(k:Nat) (m:aJ),(fV p t upto k m).1.layout=m.layout
 |0,m=>rfl
 |k+1,m=>by
  unfold fV;split
  ·split
   ·rfl
   ·rw[rK k];rfl
  ·rfl
theorem zP(p:Prog)(m:aJ)(t:Nat)(n:Int):(cY p m t n).1.layout=m.layout:=by
 unfold cY;split
 ·exact rK _ _
 ·rfl
structure J9 (q:Request):Prop where
 args:q.args.length≤3
 data:q.data.length≤16
 one:(q.call=8∨q.call=9∨q.call=11)→1≤q.args.length
 av:gB q.args
 dv:gB q.data
theorem Gh{c:Int}(h:c=8∨c=9∨c=11):(b9 c).length=1:=by
 rcases h with rfl|rfl|rfl<;>rfl
theorem OM{aE:List Int}{key:Int}{aq:List Int}{aO:List Cell}(h:cL aO)(i:Nat):gB (jy aE key aq aO i):=fun c hc=>by
 unfold jy at hc;obtain⟨x,hx,rfl⟩:=List.mem_map.1 hc;exact Hh (h x (List.mem_of_mem_take hx))
theorem Rx{aE:List Int}{key:Int}{aq:List Int}{mem:aF}(h:lZ mem)(a i:Nat):gB (ot aE key aq mem a i):=fun c hc=>by
 unfold ot at hc;obtain⟨x,hx,rfl⟩:=List.mem_map.1 hc;exact Hh (cL.look h _)
theorem Ry{p:Prog}{d:Int}{m:aJ}{x:Thread}(HM:cp p d m)(hx:cW d x)(t:Int)(hc:0≤lB p x∧lB p x≤15)(hw:BQ p m x=0):J9 (DR p m x t):=by
 have h3:=kK hc;have hl:=hx.aO;have e:(jy m.layout.aE m.layout.key p.aq x.aO (b9 (lB p x)).length).length=(b9 (lB p x)).length:=yS (by omega);unfold BQ at hw;obtain⟨_,h2⟩:=wa hw;refine⟨by simp only[DR];omega,?_,fun h=> ?_,OM hx.cells _,?_⟩
 ·simp only[DR];split
  ·rename_i hb;rw[AS];have:=(h2 (by omega)).2;omega
  ·simp
 ·simp only[DR]at h⊢;have:=Gh h;omega
 ·simp only[DR];split
  ·exact Rx HM.mem _ _
  ·exact gB.nil
theorem ON{p:Prog}{d:Int}{m:aJ}{t:Nat}{s:Int}(ht:t<4)(H:yI p d t (m,s)):cp p d (kh p m t s).1∧(kh p m t s).1.layout=m.layout∧(kh p m t s).2.bD=t∧J9 (kh p m t s).2∧(kh p m t s).2.stop≠3:=by
 have HM:=H.Gb;simp only at HM;have hx:=HM.bn ht;have ZL: ∀a b c e f,J9 ⟨a,b,c,e,f,0,[],[]⟩:=fun a b c e f=>⟨by simp,by simp,fun h=>by simp only at h;omega,gB.nil,gB.nil⟩;unfold kh;by_cases s1:s=1
 ·subst s1;rw[if_pos rfl];obtain⟨c1,c2,c3,c4⟩:=H.calls rfl;simp only at c1 c2 c3 c4;have Rz:0≤lB p (bn m t)∧lB p (bn m t)≤15:=by
   obtain⟨j,hj⟩: ∃j:Nat,(bn m t).pc-1=j:=⟨((bn m t).pc-1).toNat,by omega⟩;have vE:j<p.code.length:=by omega
   have uL:ji p.code (bn m t).pc=p.code[j]:=by unfold ji;rw[hj];simp[List.getD,vE]
   have hI:=HM.prog.BL (p:=p) vE;unfold lB;rw[uL]at c4⊢;exact⟨hI.cT.1,hI.sys c4⟩
  by_cases w0:BQ p m (bn m t)=0
  ·rw[if_pos w0];exact⟨HM,rfl,rfl,Ry HM hx _ Rz w0,by simp[DR]⟩
  ·rw[if_neg w0];have hw6:BQ p m (bn m t)=6:=by
    rcases J6 m.layout.aE p.aq p.code.length (lB p (bn m t)) (bn m t).aO with h|h
    ·exact absurd h w0
    ·exact h
   refine⟨?_,rfl,rfl,ZL _ _ _ _ _,by simp⟩;obtain⟨g1,g2,g3,g4,g5,g6,g7⟩:=HM;refine⟨g1,g2,g3,g4,by simp[eO,g5],fun i hi=> ?_,g7⟩;simp only[eO,List.length_set]at hi;simp only[eO,List.getElem_set];split
   ·rw[hw6];obtain⟨q1,q2,q3,q4,q5,q6,q7,q8,q9⟩:=hx;exact⟨by simp[fU],q2,q3,q4,q5,q6,q7,by simp[fU],by simp[fU]⟩
   ·exact g6 i hi
 ·rw[if_neg s1];refine⟨HM,rfl,rfl,ZL _ _ _ _ _,?_⟩;have:=H.stop;simp only at this⊢;omega
theorem OO{p:Prog}{d:Int}{m:aJ}{t:Nat}{n:Int}(HG:cp p d m)(hd:d+64≤1099511627776)(ht:t<4)(hn:1≤n∧n≤64)(hs:(bn m t).state=1):
  ∃m' q,ez p m t n=(m',q,0)∧cp p (d+64) m'∧m'.layout=m.layout∧q.bD=t∧J9 q∧q.stop≠3:=by
 have hv:jP p m=true:=(HG.mono (by omega)).ok;have hS:=AP HG ht hn.1 hs;have hL:=zP p m t n;obtain⟨⟨m1,s⟩,Sz⟩: ∃r,cY p m t n=r:=⟨_,rfl⟩;rw[Sz]at hS hL;obtain⟨k1,k2,k3,k4,k5⟩:=ON ht hS;have e:ez p m t n=((kh p m1 t s).1,(kh p m1 t s).2,0):=by
  unfold ez;rw[if_pos ⟨hv,⟨by omega,by omega⟩,hn.1,hn.2⟩,Int.toNat_natCast,Sz]
 exact⟨_,_,e,k1.mono (by omega),by rw[k2];exact hL,k3,k4,k5⟩
def yU{α:Type}(f:α→V)(c k:Nat)(l:List α)(v:V)(h:aG)(n:Nat):Prop:=(l=[]∧v= .sl true [])∨(0<l.length∧ ∃id,k≤id∧id<n∧v= .bJ id 0 l.length∧h id=some ⟨c,l.map f,false⟩)
theorem yU.mono{α:Type}{f:α→V}{c k n n':Nat}{l:List α}{v:V}{h h':aG}(H:yU f c k l v h n)(hn:n≤n')(hh: ∀i,k≤i→i<n→h' i=h i):yU f c k l v h' n':=by
 rcases H with H|⟨h0,id,k1,k2,e,g⟩
 ·exact .inl H
 ·exact .inr ⟨h0,id,k1,by omega,e,by rw[hh _ k1 k2,g]⟩
def oK(ids:Nat→Nat)(l:List (List Canon)):List V:=l.mapIdx fun i x=> .bJ (ids i) 0 x.length
theorem Ka(ids:Nat→Nat)(l:List (List Canon)):(oK ids l).length=l.length:=by simp[oK]
def BR(k n:Nat)(rs:List (List Canon))(v:V)(h:aG):Prop:=(rs=[]∧v= .sl true [])∨(0<rs.length∧ ∃R ids,v= .bJ R 0 rs.length∧h R=some ⟨1,oK ids rs,true⟩∧(k≤R∧R<n)∧
 (∀i (g:i<rs.length),h (ids i)=some ⟨4,(rs[i]).map Canon.enc,false⟩∧k≤ids i∧ids i<n∧ids i≠R)∧ ∀i j,i<rs.length→j<rs.length→i≠j→ids i≠ids j)
theorem BR.mono{k n n':Nat}{rs:List (List Canon)}{v:V}{h h':aG}(H:BR k n rs v h)(hn:n≤n')(hh: ∀i,k≤i→i<n→h' i=h i):BR k n' rs v h':=by
 rcases H with H|⟨h0,R,ids,e,g,k1,hi,hs⟩
 ·exact .inl H
 ·exact .inr ⟨h0,R,ids,e,by rw[hh _ k1.1 k1.2,g],by omega,fun i q=>⟨by rw[hh _ (hi i q).2.1 (hi i q).2.2.1,(hi i q).1],(hi i q).2.1,by have:=(hi i q).2.2.1;omega,(hi i q).2.2.2⟩,hs⟩
def ZM(ids:Nat→Nat)(i:Nat)(v:View):V:= .agg [.int .i64 v.state,.int .i64 v.pc,.int .i64 v.count,.int .i64 v.bK,.int .i64 v.saved,.int .i64 v.cz,.int .u16 v.code,.bJ (ids i) 0 v.aO.length]
def BS(ids:Nat→Nat)(l:List View):List V:=l.mapIdx (ZM ids)
def wT(k n:Nat)(vs:List View)(v:V)(h:aG):Prop:=(vs=[]∧v= .sl true [])∨(0<vs.length∧ ∃R ids,v= .bJ R 0 vs.length∧h R=some ⟨8,BS ids vs,true⟩∧(k≤R∧R<n)∧
 (∀i (g:i<vs.length),h (ids i)=some ⟨4,(vs[i]).aO.map Canon.enc,false⟩∧k≤ids i∧ids i<n∧ids i≠R)∧ ∀i j,i<vs.length→j<vs.length→i≠j→ids i≠ids j)
theorem wT.mono{k n n':Nat}{vs:List View}{v:V}{h h':aG}(H:wT k n vs v h)(hn:n≤n')(hh: ∀i,k≤i→i<n→h' i=h i):wT k n' vs v h':=by
 rcases H with H|⟨h0,R,ids,e,g,k1,hi,hs⟩
 ·exact .inl H
 ·exact .inr ⟨h0,R,ids,e,by rw[hh _ k1.1 k1.2,g],by omega,fun i q=>⟨by rw[hh _ (hi i q).2.1 (hi i q).2.2.1,(hi i q).1],(hi i q).2.1,by have:=(hi i q).2.2.1;omega,(hi i q).2.2.2⟩,hs⟩
def ZN(k n:Nat)(s:State)(v:V)(h:aG):Prop:= ∃vR vT n1,v= .agg [vR,vT]∧BR k n1 s.regions vR h∧wT n1 n s.threads vT h∧k≤n1∧n1≤n
structure yV (p:Prog) (d:Int) (s:State):Prop where
 p:VG p s
 rv: ∀l∈s.regions,gB l
 tv: ∀v∈s.threads,gB v.aO∧(0≤v.code∧v.code≤65535)∧v.count≤d
theorem Kd:sj ⟨0,0,0,0⟩:=⟨by simp,by simp⟩
theorem gB.getD{l:List Canon}(h:gB l)(i:Nat):sj (l.getD i ⟨0,0,0,0⟩):=by
 rcases Nat.lt_or_ge i l.length with g|g
 ·rw[List.getD_eq_getElem?_getD,List.getElem?_eq_getElem g];exact h _ (List.getElem_mem g)
 ·rw[List.getD_eq_getElem?_getD,List.getElem?_eq_none g];exact Kd
end Go.Proofs.YtdngefmliibcgaaGreat
