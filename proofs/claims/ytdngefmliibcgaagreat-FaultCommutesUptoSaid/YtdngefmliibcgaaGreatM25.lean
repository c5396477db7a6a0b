/- Part of a proof: G7. -/
import Derived.Test.YtdngefmliibcgaaGreatM22
import Derived.Test.YtdngefmliibcgaaGreatM24
set_option linter.all false
set_option maxRecDepth 20000
set_option maxHeartbeats 20000000
namespace Go.Proofs.YtdngefmliibcgaaGreat
open Go Go.Abs Go.Abs.kX Qf
variable  {l x:List Canon}{c key d s:Int}{aD an:List Int}{bz cells:List Cell}{mem:aF}{p:Prog}{m:aO}{t n k i n' id R' b r:Nat}{α:Type}{v:V}{h h':bh}{rs:List (List Canon)}{ids:Nat->Nat}
def ep.R{l:List Cell}(h:ep l):yJ l:=fun i hi=>by
 obtain⟨h1,h2⟩:=h.at hi;exact⟨h1.1,h2⟩
def db.R{p:Prog}{c:Int}{m:aO}(h:db p c m):An m:=by
 refine⟨h.key,h.mem.cells.R,fun i hi=> ?_,fun i hi=>(h.pg i hi).cells.R,fun i hi=>(h.pg i hi).code⟩;have g:=h.mem.line i;have e:dZ m.memory i=m.memory.lines[i]:=by unfold dZ;simp[List.getD,hi]
 rw[e]at g;exact g.R
def yX{p:Prog}{t:Nat}{upto:Int}: ∀(k:Nat) (m:aO),(jZ p t upto k m).1.layout=m.layout
 |0,m=>rfl
 |k+1,m=>by
  unfold jZ;split
  ·split
   ·rfl
   ·rw[yX k];rfl
  ·rfl
def Iu(p:Prog)(m:aO)(t:Nat)(n:Int):(dN p m t n).1.layout=m.layout:=by
 unfold dN;split
 ·exact yX _ _
 ·rfl
structure RU (q:Request):Prop where
 args:q.args.length<=3
 data:q.data.length<=16
 one:(q.call=8\/q.call=9\/q.call=11)->1<=q.args.length
 av:hX q.args
 dv:hX q.data
def RV(h:c=8\/c=9\/c=11):(de c).length=1:=by
 rcases h with rfl|rfl|rfl<;>rfl
def adw(h:ep bz)(i:Nat):hX (gP aD key an bz i):=fun c hc=>by
 unfold gP at hc;obtain⟨x,hx,rfl⟩:=List.mem_map.1 hc;exact K2 (h x (aaS hx))
def TC(h:ql mem)(a i:Nat):hX (mu aD key an mem a i):=fun c hc=>by
 unfold mu at hc;obtain⟨x,hx,rfl⟩:=List.mem_map.1 hc;exact K2 (ep.look h _)
def ak4{x:Thread}(HM:db p d m)(hx:eu d x)(t:Int)(hc:0<=pV p x/\pV p x<=15)(hw:GP p m x=0):RU (K8 p m x t):=by
 have h3:=pf hc;have hl:=hx.bz;have e:(gP m.layout.aD m.layout.key p.an x.bz (de (pV p x)).length).length=(de (pV p x)).length:=uq (by omega);unfold GP at hw;obtain⟨_,h2⟩:=yV hw;refine⟨by simp only[K8];omega,?_,fun h=> ?_,adw hx.cells _,?_⟩
 ·simp only[K8];split
  ·rename_i hb;rw[tL];have:=(h2 (by omega)).2;omega
  ·simp
 ·simp only[K8]at h⊢;have:=RV h;omega
 ·simp only[K8];split
  ·exact TC HM.mem _ _
  ·exact hX.nil
def adx(ht:t<4)(H:AY p d t (m,s)):db p d (mw p m t s).1/\(mw p m t s).1.layout=m.layout/\(mw p m t s).2.dd=t/\RU (mw p m t s).2/\(mw p m t s).2.stop≠3:=by
 have HM:=H.NN;simp only at HM;have hx:=HM.cg ht;have a0h: ∀a b c e f,RU ⟨a,b,c,e,f,0,[],[]⟩:=fun a b c e f=>⟨by simp,by simp,fun h=>by simp only at h;omega,hX.nil,hX.nil⟩;unfold mw;by_cases s1:s=1
 ·subst s1;rw[if_pos rfl];obtain⟨c1,c2,c3,c4⟩:=H.calls rfl;simp only at c1 c2 c3 c4;have Wz:0<=pV p (cg m t)/\pV p (cg m t)<=15:=by
   obtain⟨j,hj⟩: ∃j:Nat,(cg m t).pc-1=j:=⟨((cg m t).pc-1).toNat,by omega⟩;have tH:j<p.code.length:=by omega
   have yf:kQ p.code (cg m t).pc=p.code[j]:=by unfold kQ;rw[hj];simp[List.getD,tH]
   have hI:=HM.prog.AW (p:=p) tH;unfold pV;rw[yf]at c4⊢;exact⟨hI.ed.1,hI.sys c4⟩
  by_cases w0:GP p m (cg m t)=0
  ·rw[if_pos w0];exact⟨HM,rfl,rfl,ak4 HM hx _ Wz w0,by simp[K8]⟩
  ·rw[if_neg w0];have hw6:GP p m (cg m t)=6:=by
    rcases Wy m.layout.aD p.an p.code.length (pV p (cg m t)) (cg m t).bz with h|h
    ·exact absurd h w0
    ·exact h
   refine⟨?_,rfl,rfl,a0h _ _ _ _ _,by simp⟩;obtain⟨g1,g2,g3,g4,g5,g6,g7⟩:=HM;refine⟨g1,g2,g3,g4,by simp[iZ,g5],fun i hi=> ?_,g7⟩;simp only[iZ,aaN]at hi;simp only[iZ,abk];split
   ·rw[hw6];obtain⟨q1,q2,q3,q4,q5,q6,q7,q8,q9⟩:=hx;exact⟨by simp[iV],q2,q3,q4,q5,q6,q7,by simp[iV],by simp[iV]⟩
   ·exact g6 i hi
 ·rw[if_neg s1];refine⟨HM,rfl,rfl,a0h _ _ _ _ _,?_⟩;have:=H.stop;simp only at this⊢;omega
def B4{n:Int}(HG:db p d m)(hd:d+64<=1099511627776)(ht:t<4)(hn:1<=n/\n<=64)(hs:(cg m t).state=1):
  ∃m' q,gN p m t n=(m',q,0)/\db p (d+64) m'/\m'.layout=m.layout/\q.dd=t/\RU q/\q.stop≠3:=by
 have hv:jU p m=true:=(HG.mono (by omega)).ok;have hS:=C0 HG ht hn.1 hs;have hL:=Iu p m t n;obtain⟨⟨m1,s⟩,hms⟩: ∃r,dN p m t n=r:=⟨_,rfl⟩;rw[hms]at hS hL;obtain⟨k1,k2,k3,k4,k5⟩:=adx ht hS;have e:gN p m t n=((mw p m1 t s).1,(mw p m1 t s).2,0):=by
  unfold gN;rw[if_pos ⟨hv,⟨by omega,by omega⟩,hn.1,hn.2⟩,aaH,hms]
 exact⟨_,_,e,k1.mono (by omega),by rw[k2];exact hL,k3,k4,k5⟩
def ak5(HG:db p d m)(ht:t<4)(hc:F9 (cg m t)=true):db p d (yW m t)/\(yW m t).layout=m.layout/\(cg (yW m t) t).state=1:=by
 have hx:=HG.cg ht;have hl:=HG.len;unfold F9 at hc;simp only[aaF,decide_eq_true_eq]at hc;obtain⟨c1,c2,c3⟩:=hc;refine⟨?_,rfl,?_⟩
 ·obtain⟨g1,g2,g3,g4,g5,g6,g7⟩:=HG;refine⟨g1,g2,g3,g4,by simp[yW,g5],fun i hi=> ?_,g7⟩;simp only[yW,aaN]at hi;simp only[yW,abk];split
  ·obtain⟨q1,q2,q3,q4,q5,q6,q7,q8,q9⟩:=hx;exact⟨q1,q2,q3,by simp only;omega,q5,q6,by simp only;omega,q8,q9⟩
  ·exact g6 i hi
 ·have np:t<m.threads.length:=by omega
  simp[cg,yW,List.getD,np];simpa[cg,List.getD,np] using c1
def RW{l:List Thread}(h:i<(k8 l k).length): ∃t:Nat,t<k/\(k8 l k)[i]=(t:Int)/\(l.getD t cw).state=1:=by
 have hm:=aaL h;unfold k8 at hm;obtain⟨t,h1,h2⟩:=List.mem_map.1 hm;obtain⟨h3,h4⟩:=List.mem_filter.1 h1;refine⟨t,List.mem_range.1 h3,?_,by simpa using h4⟩;unfold k8;exact h2.symm
def C6{α:Type}(f:α->V)(c k:Nat)(l:List α)(v:V)(h:bh)(n:Nat):Prop:=(l=[]/\v= .sl true [])\/(0<l.length/\ ∃id,k<=id/\id<n/\v= .cu id 0 l.length/\h id=some ⟨c,l.map f,false⟩)
def C6.mono{f:α->V}{c:Nat}{l:List α}(H:C6 f c k l v h n)(hn:n<=n')(hh: ∀i,k<=i->i<n->h' i=h i):C6 f c k l v h' n':=by
 rcases H with H|⟨h0,id,k1,k2,e,g⟩
 ·exact .inl H
 ·exact .inr ⟨h0,id,k1,by omega,e,by rw[hh _ k1 k2,g]⟩
def jN(ids:Nat->Nat)(l:List (List Canon)):List V:=l.mapIdx fun i x=> .cu (ids i) 0 x.length
def nE(ids:Nat->Nat)(l:List (List Canon)):(jN ids l).length=l.length:=by simp[jN]
def RX(ids:Nat->Nat)(l:List (List Canon))(x:List Canon)(n:Nat):jN ids l++ [.cu n 0 x.length]=jN (aR ids l.length n) (l++ [x]):=by
 apply abA;intro i;simp only[jN,List.mapIdx_append,aeP,List.mapIdx_nil];rcases aaR i l.length with h|h
 ·rw[aaV (by simpa using h),aaV (by simpa using h)];simp[aR,aeF h]
 ·rw[aaO (by simpa using h),aaO (by simpa using h)];simp[aR]
def oC(k n:Nat)(rs:List (List Canon))(v:V)(h:bh):Prop:=(rs=[]/\v= .sl true [])\/(0<rs.length/\ ∃R ids,v= .cu R 0 rs.length/\h R=some ⟨1,jN ids rs,true⟩/\(k<=R/\R<n)/\
 (∀i (g:i<rs.length),h (ids i)=some ⟨4,(rs[i]).map Canon.e,false⟩/\k<=ids i/\ids i<n/\ids i≠R)/\ ∀i j,i<rs.length->j<rs.length->i≠j->ids i≠ids j)
def oC.mono(H:oC k n rs v h)(hn:n<=n')(hh: ∀i,k<=i->i<n->h' i=h i):oC k n' rs v h':=by
 rcases H with H|⟨h0,R,ids,e,g,k1,hi,hs⟩
 ·exact .inl H
 ·exact .inr ⟨h0,R,ids,e,by rw[hh _ k1.1 k1.2,g],by omega,fun i q=>⟨by rw[hh _ (hi i q).2.1 (hi i q).2.2.1,(hi i q).1],(hi i q).2.1,by have:=(hi i q).2.2.1;omega,(hi i q).2.2.2⟩,hs⟩
def oC.TD{m:Nat}{R:Nat}(hR:h R=some ⟨1,[.cu id 0 x.length],true⟩)(hi:h id=some ⟨4,x.map Canon.e,false⟩)(b:k<=id/\id<m/\k<=R/\R<m/\id≠R):oC k m [x] (.cu R 0 1) h:=by
 refine .inr ⟨by simp,R,fun _=>id,rfl,by rw[hR];rfl,by omega,fun i g=> ?_,fun i j a c d=>by simp at a c;omega⟩;have:i=0:=by simp at g;omega
 subst this;exact⟨hi,b.1,b.2.1,b.2.2.2.2⟩
def oC.snoc {m:Nat}    {R:Nat}  (hi: ∀i (g:i<rs.length),h (ids i)=some ⟨4,(rs[i]).map Canon.e,false⟩/\k<=ids i/\ids i<n/\ids i≠R) (hs: ∀i j,i<rs.length->j<rs.length->i≠j->ids i≠ids j)
  (hR:h' R'=some ⟨1,jN ids rs++ [.cu id 0 x.length],true⟩) (fg:h' id=some ⟨4,x.map Canon.e,false⟩) (hh: ∀i,k<=i->i<n->i≠R->h' i=h i) (b:k<=n/\n<=id/\id<R'/\R'<m):oC k m (rs++ [x]) (.cu R' 0 (rs.length+1)) h':=by
 refine .inr ⟨by simp,R',aR ids rs.length id,by simp,by rw[hR,RX],by omega,fun i g=> ?_,fun i j a c d=> ?_⟩
 ·rcases aaR i rs.length with q|q
  ·obtain⟨a1,a2,a3,a4⟩:=hi i q;rw[aR,if_neg (by omega),acP q];exact⟨by rw[hh _ a2 a3 a4,a1],a2,by omega,by omega⟩
  ·have:i=rs.length:=by simp at g;omega
   subst this;rw[aR,if_pos rfl];simp only[adE (aaI _),acS,aco];exact⟨fg,by omega,by omega,by omega⟩
 ·simp only[aaY,abJ,acM]at a c;unfold aR;by_cases e1:i=rs.length
  ·have q:=(hi j (by omega)).2.2.1;rw[if_pos e1,if_neg (by omega)];omega
  ·have q:=(hi i (by omega)).2.2.1;rw[if_neg e1];by_cases e2:j=rs.length
   ·rw[if_pos e2];omega
   ·rw[if_neg e2];exact hs i j (by omega) (by omega) d
def uZ(aD:List Int)(key:Int)(an:List Int)(mem:aF)(r:Nat):List Canon:=mu aD key an mem (nth aD r).toNat (nth an r).toNat
def la(aD:List Int)(key:Int)(an:List Int)(mem:aF)(k:Nat):List (List Canon):=(List.range k).map (uZ aD key an mem)
def Lb(aD:List Int)(key:Int)(an:List Int)(mem:aF)(k:Nat):la aD key an mem (k+1)=la aD key an mem k++ [uZ aD key an mem k]:=by
 unfold la;rw[acH,abH];rfl
def vy(aD:List Int)(key:Int)(an:List Int)(mem:aF)(k:Nat):(la aD key an mem k).length=k:=by simp[la]
def RgI(aD:List Int)(key:Int)(an:List Int)(mem:aF)(k r:Nat)(S:St):Prop:=
 (S.f 2= .sl false (an.map (V.int .i64))/\S.f 3= .ptr k 0 0/\S.f 4= .ptr (k+1) 0 0/\S.f 12= .sl false (an.map (V.int .i64))/\S.f 13= .int .i64 (an.length:Int)/\S.f 14= .int .i64 (r:Int))/\
 (S.h k=some ⟨2,[KKz mem],true⟩/\S.h (k+1)=some ⟨2,[KKc aD key],true⟩)/\
 oC (k+2) S.n (la aD key an mem r) (S.f 7) S.h/\k+2<=S.n
def RgJ(aD:List Int)(key:Int)(an:List Int)(mem:aF)(k r n0 o:Nat)(S:St):Prop:=
 (S.f 2= .sl false (an.map (V.int .i64))/\S.f 3= .ptr k 0 0/\S.f 4= .ptr (k+1) 0 0/\S.f 8= .int .i64 (r:Int)/\S.f 12= .sl false (an.map (V.int .i64))/\S.f 13= .int .i64 (an.length:Int)/\S.f 14= .int .i64 (r:Int)/\S.f 19= .int .i64 (nth an r)/\S.f 20= .int .i64 (o:Int))/\
 (S.h k=some ⟨2,[KKz mem],true⟩/\S.h (k+1)=some ⟨2,[KKc aD key],true⟩)/\
 oC (k+2) n0 (la aD key an mem r) (S.f 7) S.h/\C6 Canon.e 4 n0 (mu aD key an mem (nth aD r).toNat o) (S.f 10) S.h S.n/\k+2<=n0/\n0<=S.n
@[simp]def WD(dz:List Cell)(bU:List cy)(aw:List Int)(bK:Int)(an:List Int)(k:Nat)(hL:ov aw an)(hM:ql ⟨dz,bU⟩): ∃v h' k',cL X 89 [KKp dz bU,KKc aw bK,.sl false (an.map (V.int .i64))] pP k=some (v,h',k')/\oC (k+2) k' (la aw bK an ⟨dz,bU⟩ an.length) v h'/\k+2<=k':=by
 have hb:aw.length=an.length:=hL.len;have XP:an.length<=4:=hL.sz.le;have hMP:uf ⟨dz,bU⟩:=hM.mem;refine aaB ?_;simp[aaE];refine lS (fun r S=>RgI aw bK an ⟨dz,bU⟩ k r S) an.length ?_ 0 (by omega) ?_
 ·rintro r S hr ⟨⟨f2,f3,f4,f12,f13,f14⟩,⟨h0,h1⟩,HR,hk⟩;simp only at h0 h1;by_cases gY:r<an.length
  case neg=>
   have er:r=an.length:=by omega
   subst er;simp[f13,f14];exact⟨HR.mono (by omega) fun _ _ _=>rfl,by omega⟩
  have hw:IntKind.i64.wrap ((r:Int)+1)=r+1:=wrap_i64 (by omega);have pY:r<aw.length:=by omega
  obtain⟨z1,z2⟩:=hL.sz.elem r gY;obtain⟨b1,b2⟩:=hL.base r pY gY;obtain⟨b,Tt⟩: ∃b:Nat,aw[r]=b:=⟨(aw[r]).toNat,by omega⟩;obtain⟨z,hze⟩: ∃z:Nat,an[r]=z:=⟨(an[r]).toNat,by omega⟩;have Xy:nth aw r=b:=by rw[dC pY,Tt]
  have hzn:nth an r=z:=by rw[dC gY,hze]
  simp[f12,f13,f14,gY,hze];refine lS (fun o S'=>RgJ aw bK an ⟨dz,bU⟩ k r (S.n+9) o S') z ?_ 0 (by omega) ?_
  ·rintro o S' ho ⟨⟨j2,j3,j4,j8,j12,j13,j14,j19,j20⟩,⟨g0,g1⟩,RY,HO,hk0,Eo⟩;simp only at g0 g1;rw[hzn]at j19;have hzl:(((z:Nat):Int)).toNat=z:=by omega
   have Wb:(((b:Nat):Int)).toNat=b:=by omega
   rw[Xy,Wb]at HO;by_cases ady:o<z
   case neg=>
    have bL: ¬(o:Int)<z:=by omega
    have eo:o=z:=by omega
    subst eo;have Bh:=tL aw bK an ⟨dz,bU⟩ b o;have qJ:=vy aw bK an ⟨dz,bU⟩ r;have ln:=Lb aw bK an ⟨dz,bU⟩ r;unfold uZ at ln;rw[Xy,hzn,Wb,hzl]at ln;obtain⟨bs,Xr⟩: ∃q,mu aw bK an ⟨dz,bU⟩ b o=q:=⟨_,rfl⟩;obtain⟨rs,B5⟩: ∃q,la aw bK an ⟨dz,bU⟩ r=q:=⟨_,rfl⟩;rw[Xr]at HO Bh ln;rw[B5]at RY qJ ln;rcases HO with⟨K4,j10⟩|⟨K4,id,i1,i2,j10,fg⟩
    ·rw[K4]at Bh;simp at Bh;omega
    have ni: ∀j,¬id=S'.n+j:=fun j=>by omega
    have n1: ∀j,¬k=S'.n+j:=fun j=>by omega
    rcases RY with⟨e0,j7⟩|⟨e0,R,ids,j7,r1,r2,r3,r4⟩
    ·simp[aaE,j7,j10,j14,j19,j20,bL,gY,hw];refine⟨⟨by simp[aR,j2],by simp[aR,j3],by simp[aR,j4],by simp[aR,j12],by simp[aR,j13],by simp[aR]⟩,⟨?_,?_⟩,?_,by simp only;omega⟩
     ·simp[aR,n1,g0]
     ·simp[aR,n1,g1]
     ·rw[ln,e0];refine oC.TD (id:=id) (R:=S'.n+4) ?_ ?_ (by simp only;omega)
      ·simp[aR]
      ·simp[aR,ni,fg]
    ·have nR: ∀j,¬R=S'.n+j:=fun j=>by omega
     have rl:=nE ids rs;have rt:(jN ids rs).take rs.length=jN ids rs:=aZ (by omega);have rb:rs.length<=1000:=by omega
     simp[aaE,j7,j10,j14,j19,j20,bL,gY,hw,r1,nR,rl,rt];refine⟨⟨by omega,by omega⟩,fun _ _=>⟨⟨by simp[aR,j2],by simp[aR,j3],by simp[aR,j4],by simp[aR,j12],by simp[aR,j13],by simp[aR]⟩,⟨?_,?_⟩,?_,by simp only;omega⟩⟩
     ·have n3: ¬k=R:=by omega
      simp[aR,n1,n3,g0]
     ·have n3: ¬k+1=R:=by omega
      simp[aR,n1,n3,g1]
     ·rw[ln];refine oC.snoc (n:=S.n+9) (id:=id) (R:=R) (R':=S'.n+4) (h:=S'.h) (ids:=ids) r3 r4 ?_ ?_ ?_ (by simp only;omega)
      ·simp[aR]
      ·have n3: ¬id=R:=by omega
       simp[aR,ni,n3,fg]
      ·intro i hi1 En Bi;have n4: ∀j,¬i=S'.n+j:=fun j=>by omega
       simp[aR,n4,Bi]
   have bL:(o:Int)<z:=by omega
   have hwo:IntKind.i64.wrap ((o:Int)+1)=o+1:=wrap_i64 (by omega);obtain⟨q,hq⟩: ∃q:Nat,b+o=q:=⟨_,rfl⟩;have hq5:q<512:=by omega
   have Wa:(q:Int)<512:=by omega
   have hqw:IntKind.i64.wrap ((b:Int)+o)=q:=by rw[wrap_i64 (by omega)];omega
   have a0j:(r:Int)<aw.length:=by omega
   have ln:=GO aw bK an ⟨dz,bU⟩ b o;rw[hq]at ln;obtain⟨⟨lt,lv⟩,hlk⟩: ∃c,look ⟨dz,bU⟩ q=c:=⟨_,rfl⟩;have hlp:=ep.look hM q;rw[hlk]at ln hlp;have hlv:=hlp.2;have Bh:=tL aw bK an ⟨dz,bU⟩ b o;obtain⟨bs,Xr⟩: ∃q,mu aw bK an ⟨dz,bU⟩ b o=q:=⟨_,rfl⟩;rw[Xr]at HO Bh ln;have n1: ∀j,¬k=S'.n+j:=fun j=>by omega
   have n2: ∀j,¬k+1=S'.n+j:=fun j=>by omega
   have Dq:=BF dz bU q hMP (by omega);rw[aaH,hlk]at Dq;rcases HO with⟨K4,j10⟩|⟨K4,id,i1,i2,j10,fg⟩
   ·simp[aaE,j2,j3,j4,j8,j10,j19,j20,g0,g1,bL,ady,hwo,hL,hqw,pY,a0j,Tt,Dq,hlv];refine⟨⟨by simp[aR,j2],by simp[aR,j3],by simp[aR,j4],by simp[aR,j8],by simp[aR,j12],by simp[aR,j13],by simp[aR,j14],by simp[aR,j19,hzn],by simp[aR]⟩,⟨by simp[aR,n1,g0],by simp[aR,n1,g1]⟩,?_,?_,by omega,by simp only;omega⟩
    ·simp only[aR,Nat.reduceEqDiff,if_false];exact RY.mono (by omega) fun i a b=>by
      have n4: ∀j,¬i=S'.n+j:=fun j=>by omega
      simp[n4]
    ·rw[Xy,Wb,ln,K4];refine .inr ⟨by simp,S'.n+17,by omega,by simp only;omega,by simp[aR],by simp[aR,Canon.bS]⟩
   ·have ni: ∀j,¬id=S'.n+j:=fun j=>by omega
    simp[aaE,j2,j3,j4,j8,j10,j19,j20,g0,g1,bL,ady,hwo,hL,hqw,pY,a0j,Tt,Dq,hlv,fg];refine⟨⟨by omega,by omega⟩,fun _ _=>⟨⟨by simp[aR,j2],by simp[aR,j3],by simp[aR,j4],by simp[aR,j8],by simp[aR,j12],by simp[aR,j13],by simp[aR,j14],by simp[aR,j19,hzn],by simp[aR]⟩,⟨?_,?_⟩,?_,?_,by omega,by simp only;omega⟩⟩
    ·have n3: ¬k=id:=by omega
     simp[aR,n1,n3,g0]
    ·have n3: ¬k+1=id:=by omega
     simp[aR,n1,n3,g1]
    ·simp only[aR,Nat.reduceEqDiff,if_false];exact RY.mono (by omega) fun i a b=>by
      have n4: ∀j,¬i=S'.n+j:=fun j=>by omega
      have n5: ¬i=id:=by omega
      simp[n4,n5]
    ·rw[Xy,Wb,ln];refine .inr ⟨by simp,S'.n+17,by omega,by simp only;omega,by simp[aR],by simp[aR,Canon.bS]⟩
  ·simp[aaE];refine⟨⟨by simp[aR,f2],by simp[aR,f3],by simp[aR,f4],by simp[aR],by simp[aR,f12],by simp[aR,f13],by simp[aR,f14],by simp[aR,hzn],by simp[aR]⟩,⟨by simp only;exact h0,by simp only;exact h1⟩,?_,.inl ⟨rfl,by simp[aR]⟩,by omega,by simp only;omega⟩;exact HR.mono (by omega) fun _ _ _=>rfl
 ·simp[];refine⟨⟨rfl,by simp[aR],by simp[aR],by simp[aR],by simp[aR],by simp[aR]⟩,⟨by simp[aR],by simp[aR]⟩,.inl ⟨rfl,by simp[aR]⟩,by simp only;omega⟩
def B6(aD:List Int)(key:Int)(an:List Int)(x:Thread):View:=⟨x.state,x.pc,x.count,x.cn,x.saved,x.dn,x.code,x.bz.map (canon aD key an)⟩
def pA(aD:List Int)(key:Int)(an:List Int)(l:List Thread):List View:=l.map (B6 aD key an)
def RZ{l:List Thread}(h:i<l.length):pA aD key an (l.take (i+1))=pA aD key an (l.take i)++ [B6 aD key an l[i]]:=by
 unfold pA;rw[fD h,abH];rfl
def DM(aD:List Int)(key:Int)(an:List Int)(l:List Thread):(pA aD key an l).length=l.length:=by simp[pA]
def sU(p:Prog)(m:aO):State:=⟨la m.layout.aD m.layout.key p.an m.memory p.an.length,pA m.layout.aD m.layout.key p.an m.threads⟩
def rB(ids:Nat->Nat)(i:Nat)(v:View):V:= .agg [.int .i64 v.state,.int .i64 v.pc,.int .i64 v.count,.int .i64 v.cn,.int .i64 v.saved,.int .i64 v.dn,.int .u16 v.code,.cu (ids i) 0 v.bz.length]
def jS(ids:Nat->Nat)(l:List View):List V:=l.mapIdx (rB ids)
def ur(ids:Nat->Nat)(l:List View):(jS ids l).length=l.length:=by simp[jS]
def N3(ids:Nat->Nat)(l:List View)(x:View)(n:Nat):jS ids l++ [rB (fun _=>n) 0 x]=jS (aR ids l.length n) (l++ [x]):=by
 apply abA;intro i;simp only[jS,List.mapIdx_append,aeP,List.mapIdx_nil];rcases aaR i l.length with h|h
 ·rw[aaV (by simpa using h),aaV (by simpa using h)];simp[rB,aR,aeF h,aaJ h]
 ·rw[aaO (by simpa using h),aaO (by simpa using h)];simp[rB,aR]
def qs(k n:Nat)(vs:List View)(v:V)(h:bh):Prop:=(vs=[]/\v= .sl true [])\/(0<vs.length/\ ∃R ids,v= .cu R 0 vs.length/\h R=some ⟨8,jS ids vs,true⟩/\(k<=R/\R<n)/\
 (∀i (g:i<vs.length),h (ids i)=some ⟨4,(vs[i]).bz.map Canon.e,false⟩/\k<=ids i/\ids i<n/\ids i≠R)/\ ∀i j,i<vs.length->j<vs.length->i≠j->ids i≠ids j)
def qs.mono{vs:List View}(H:qs k n vs v h)(hn:n<=n')(hh: ∀i,k<=i->i<n->h' i=h i):qs k n' vs v h':=by
 rcases H with H|⟨h0,R,ids,e,g,k1,hi,hs⟩
 ·exact .inl H
 ·exact .inr ⟨h0,R,ids,e,by rw[hh _ k1.1 k1.2,g],by omega,fun i q=>⟨by rw[hh _ (hi i q).2.1 (hi i q).2.2.1,(hi i q).1],(hi i q).2.1,by have:=(hi i q).2.2.1;omega,(hi i q).2.2.2⟩,hs⟩
def qs.TD{m:Nat}{x:View}{R:Nat}(hR:h R=some ⟨8,[rB (fun _=>id) 0 x],true⟩)(hi:h id=some ⟨4,x.bz.map Canon.e,false⟩)(b:k<=id/\id<m/\k<=R/\R<m/\id≠R):qs k m [x] (.cu R 0 1) h:=by
 refine .inr ⟨by simp,R,fun _=>id,rfl,by rw[hR];rfl,by omega,fun i g=> ?_,fun i j a c d=>by simp at a c;omega⟩;have:i=0:=by simp at g;omega
 subst this;exact⟨hi,b.1,b.2.1,b.2.2.2.2⟩
def qs.snoc {m:Nat} {rs:List View}  {x:View} {R:Nat}  (hi: ∀i (g:i<rs.length),h (ids i)=some ⟨4,(rs[i]).bz.map Canon.e,false⟩/\k<=ids i/\ids i<n/\ids i≠R) (hs: ∀i j,i<rs.length->j<rs.length->i≠j->ids i≠ids j)
  (hR:h' R'=some ⟨8,jS ids rs++ [rB (fun _=>id) 0 x],true⟩) (fg:h' id=some ⟨4,x.bz.map Canon.e,false⟩) (hh: ∀i,k<=i->i<n->i≠R->h' i=h i) (b:k<=n/\n<=id/\id<R'/\R'<m):qs k m (rs++ [x]) (.cu R' 0 (rs.length+1)) h':=by
 refine .inr ⟨by simp,R',aR ids rs.length id,by simp,by rw[hR,N3],by omega,fun i g=> ?_,fun i j a c d=> ?_⟩
 ·rcases aaR i rs.length with q|q
  ·obtain⟨a1,a2,a3,a4⟩:=hi i q;rw[aR,if_neg (by omega),acP q];exact⟨by rw[hh _ a2 a3 a4,a1],a2,by omega,by omega⟩
  ·have:i=rs.length:=by simp at g;omega
   subst this;rw[aR,if_pos rfl];simp only[adE (aaI _),acS,aco];exact⟨fg,by omega,by omega,by omega⟩
 ·simp only[aaY,abJ,acM]at a c;unfold aR;by_cases e1:i=rs.length
  ·have q:=(hi j (by omega)).2.2.1;rw[if_pos e1,if_neg (by omega)];omega
  ·have q:=(hi i (by omega)).2.2.1;rw[if_neg e1];by_cases e2:j=rs.length
   ·rw[if_pos e2];omega
   ·rw[if_neg e2];exact hs i j (by omega) (by omega) d
def ati(k n:Nat)(s:State)(v:V)(h:bh):Prop:= ∃vR vT n1,v= .agg [vR,vT]/\oC k n1 s.regions vR h/\qs n1 n s.threads vT h/\k<=n1/\n1<=n
def StI(p:Prog)(m:aO)(k k1 k2 c5 n1 i:Nat)(vR:V)(S:St):Prop:=
 ∃vT,(S.f 2= .ptr k 0 0/\S.f 3= .ptr k1 0 0/\S.f 4= .ptr k2 0 0/\S.f 5= .ptr c5 0 0/\S.f 20= .sl false (m.threads.map Thread.e)/\S.f 21= .int .i64 4/\S.f 22= .int .i64 (i:Int))/\
 (S.h k=some ⟨3,[KKk p],true⟩/\S.h k1=some ⟨5,[.agg (mr m)],true⟩/\S.h k2=some ⟨2,[.agg [.sl true [],.sl true []]],true⟩/\S.h c5=some ⟨2,[.agg [vR,vT]],true⟩)/\
 oC (k+15) n1 (la m.layout.aD m.layout.key p.an m.memory p.an.length) vR S.h/\qs n1 S.n (pA m.layout.aD m.layout.key p.an (m.threads.take i)) vT S.h/\k+15<=n1/\n1<=S.n
def StJ(p:Prog)(m:aO)(k k1 k2 c5 c8 n1 n2 i:Nat)(vR vT:V)(x:Thread)(j:Nat)(S:St):Prop:=
 ∃vC,(S.f 2= .ptr k 0 0/\S.f 3= .ptr k1 0 0/\S.f 4= .ptr k2 0 0/\S.f 5= .ptr c5 0 0/\S.f 8= .ptr c8 0 0/\S.f 20= .sl false (m.threads.map Thread.e)/\S.f 21= .int .i64 4/\S.f 22= .int .i64 (i:Int)/\S.f 42= .sl false (x.bz.map Cell.e)/\S.f 43= .int .i64 8/\S.f 44= .int .i64 (j:Int))/\
 (S.h k=some ⟨3,[KKk p],true⟩/\S.h k1=some ⟨5,[.agg (mr m)],true⟩/\S.h k2=some ⟨2,[.agg [.sl true [],.sl true []]],true⟩/\S.h c5=some ⟨2,[.agg [vR,vT]],true⟩/\
  S.h c8=some ⟨8,[.agg [.int .i64 x.state,.int .i64 x.pc,.int .i64 x.count,.int .i64 x.cn,.int .i64 x.saved,.int .i64 x.dn,.int .u16 x.code,vC]],true⟩)/\
 oC (k+15) n1 (la m.layout.aD m.layout.key p.an m.memory p.an.length) vR S.h/\qs n1 n2 (pA m.layout.aD m.layout.key p.an (m.threads.take i)) vT S.h/\k+15<=n1/\n1<=n2/\c8+1<=S.n/\C6 Canon.e 4 (c8+1) (gP m.layout.aD m.layout.key p.an x.bz j) vC S.h S.n
@[simp]def ak7(ax:List Instr)(ae:List Int)(ay:List (List Int))(aa:List Int)(aq:Int)(ak:List Cell)(ah:List cy)(au:List Thread)(k:Nat)(d:Int)(HG:db (Prog.mk ax ae ay) d (aO.mk (Layout.mk aa aq) (aF.mk ak ah) au)): ∃v h' k',cL X 36 [KKQ ax ae ay,KKY aa aq ak ah au] pP k=some (v,h',k')/\ati (k+15) k' (sU (Prog.mk ax ae ay) (aO.mk (Layout.mk aa aq) (aF.mk ak ah) au)) v h':=by
 have hL:ov aa ae:=HG.lay;have hl:au.length=4:=HG.len;obtain⟨vR,hR,kR,eR,HR,hkR⟩:=WD ak ah aa aq ae (k+13) hL HG.mem;simp only[aaE,Nat.reduceAdd]at eR HR hkR;have hz1:1<=ae.length:=hL.sz.pos;have qJ:=vy aa aq ae ⟨ak,ah⟩ ae.length;obtain⟨R,rfl⟩: ∃R,vR= .cu R 0 ae.length:=by
  rcases HR with⟨e,_⟩|⟨_,R,_,e,_⟩
  ·rw[e]at qJ;simp at qJ;omega
  ·rw[qJ]at e;exact⟨R,e⟩
 refine aaB ?_;simp[aaE,eR,hl];obtain⟨k1,Eo⟩: ∃q,k+1=q:=⟨_,rfl⟩;obtain⟨k2,xX⟩: ∃q,k+2=q:=⟨_,rfl⟩;obtain⟨c5,hc5⟩: ∃q,k+11=q:=⟨_,rfl⟩;refine lS (fun i S=>StI (Prog.mk ax ae ay) (aO.mk (Layout.mk aa aq) (aF.mk ak ah) au) k k1 k2 c5 kR i (.cu R 0 ae.length) S) 4 ?_ 0 (by omega) ?_
 ·rintro i S hi ⟨vT,⟨f2,f3,f4,f5,f20,f21,f22⟩,⟨h0,h1,h2,h5⟩,HRi,HT,Ps,D4⟩;unfold mr at h1;simp only at h0 h1 f20 HRi HT;by_cases gY:i<4
  case neg=>
   have bL: ¬(i:Int)<4:=by omega
   have ei:i=4:=by omega
   subst ei;rw[aZ (by omega)]at HT;have nT: ¬c5=k2:=by omega
   have vl:=DM aa aq ae au;rcases HT with⟨e,_⟩|⟨e0,Q,ids,rfl,r1,r2,r3,r4⟩
   ·rw[e]at vl;simp at vl;omega
   simp[aaE,f4,f5,f21,f22,h2,h5];refine⟨_,_,kR,rfl,HRi.mono (aaI _) fun j a b=>by rw[aR,if_neg (by omega)],.inr ⟨e0,Q,ids,rfl,?_,by omega,fun j g=> ?_,r4⟩,Ps,by omega⟩
   ·rw[aR,if_neg (by omega)];exact r1
   ·obtain⟨a1,a2,a3,a4⟩:=r3 j g;exact⟨by rw[aR,if_neg (by omega)];exact a1,a2,by omega,a4⟩
  have bL:(i:Int)<4:=by omega
  have EV:i<au.length:=by omega
  have hw:IntKind.i64.wrap ((i:Int)+1)=i+1:=wrap_i64 (by omega);have hx:=HG.pg i EV;obtain⟨x,pO⟩: ∃x,au[i]=x:=⟨_,rfl⟩;simp only[pO]at hx;have h8:=hx.bz;simp[aaE,f20,f21,f22,gY,bL,pO,Thread.bS,h8,hl];obtain⟨c8,hc8⟩: ∃q,S.n+20=q:=⟨_,rfl⟩;refine lS (fun j S'=>StJ (Prog.mk ax ae ay) (aO.mk (Layout.mk aa aq) (aF.mk ak ah) au) k k1 k2 c5 c8 kR S.n i (.cu R 0 ae.length) vT x j S') 8 ?_ 0 (by omega) ?_
  ·rintro j S' hj ⟨vC,⟨j2,j3,j4,j5,j8,j20,j21,j22,j42,j43,j44⟩,⟨g0,g1,g2,g5,g8⟩,RY,HT',q1,q2,q3,HO⟩;unfold mr at g1;simp only at g0 g1 j20 RY HT' HO;by_cases jP:j<8
   case neg=>
    have DN: ¬(j:Int)<8:=by omega
    have ej:j=8:=by omega
    subst ej;have wG:=uq (aD:=aa) (key:=aq) (an:=ae) (bz:=x.bz) (i:=8) (by omega);have hvw:B6 aa aq ae x=⟨x.state,x.pc,x.count,x.cn,x.saved,x.dn,x.code,gP aa aq ae x.bz 8⟩:=by
     unfold B6 gP;rw[aZ (by omega)]
    have ln:=RZ (aD:=aa) (key:=aq) (an:=ae) EV;rw[pO,hvw]at ln;obtain⟨al,has⟩: ∃q,gP aa aq ae x.bz 8=q:=⟨_,rfl⟩;have hvl:=DM aa aq ae (au.take i);rw[acT (by omega)]at hvl;obtain⟨vs,hvs⟩: ∃q,pA aa aq ae (au.take i)=q:=⟨_,rfl⟩;rw[has]at HO wG ln;rw[hvs]at HT' ln hvl;rcases HO with⟨K4,jC⟩|⟨K4,id,i1,i2,rfl,fg⟩
    ·rw[K4]at wG;simp at wG
    have ni: ∀j,¬id=S'.n+j:=fun j=>by omega
    have n1: ∀j,¬k=S'.n+j:=fun j=>by omega
    have m1: ∀j,¬k1=S'.n+j:=fun j=>by omega
    have m2: ∀j,¬k2=S'.n+j:=fun j=>by omega
    have m5: ∀j,¬c5=S'.n+j:=fun j=>by omega
    have nS: ∀j,¬c8=S'.n+j:=fun j=>by omega
    have nk: ¬c8=c5:=by omega
    have nk2: ¬c5=c8:=by omega
    have nk5: ∀j,¬S'.n+j=c5:=fun j=>by omega
    rcases HT' with⟨e0,rfl⟩|⟨e0,Q,ids,rfl,r1,r2,r3,r4⟩
    ·simp[aaE,j5,j8,j22,j43,j44,g5,g8,gY,hw,m5];refine⟨.cu (S'.n+5) 0 1,⟨by simp[aR,j2],by simp[aR,j3],by simp[aR,j4],by simp[aR,j5],by simp[aR,j20],by simp[aR,j21],by simp[aR]⟩,⟨?_,?_,?_,by simp[aR]⟩,?_,?_,Ps,by simp only;omega⟩
     ·have w: ¬k=c5:=by omega
      simp[aR,n1,w,g0]
     ·have w: ¬k1=c5:=by omega
      simp[aR,m1,w,g1,mr]
     ·have w: ¬k2=c5:=by omega
      simp[aR,m2,w,g2]
     ·exact RY.mono (by omega) fun l a b=>by
       have w1: ∀j,¬l=S'.n+j:=fun j=>by omega
       have w2: ¬l=c5:=by omega
       simp[aR,w1,w2]
     ·rw[ln,e0];have w: ¬id=c5:=by omega
      exact qs.TD (id:=id) (R:=S'.n+5) (by simp[aR,rB,nk5]) (by simp[aR,ni,w,fg]) (by simp only;omega)
    ·have nQ: ∀j,¬Q=S'.n+j:=fun j=>by omega
     have nQ5: ¬c5=Q:=by omega
     have nQ8: ¬c8=Q:=by omega
     have nQ1: ¬k1=Q:=by omega
     have nQ2: ¬k2=Q:=by omega
     have nQ0: ¬k=Q:=by omega
     have rl:=ur ids vs;have rt:(jS ids vs).take vs.length=jS ids vs:=aZ (by omega);simp[aaE,j5,j8,j22,j43,j44,g5,g8,gY,hw,m5,nQ5,r1,nQ,rl,rt];refine⟨⟨by omega,by omega⟩,fun _ _=>⟨.cu (S'.n+5) 0 (vs.length+1),⟨by simp[aR,j2],by simp[aR,j3],by simp[aR,j4],by simp[aR,j5],by simp[aR,j20],by simp[aR,j21],by simp[aR]⟩,⟨?_,?_,?_,by simp[aR]⟩,?_,?_,Ps,by simp only;omega⟩⟩
     ·have w: ¬k=c5:=by omega
      simp[aR,n1,w,nQ0,g0]
     ·have w: ¬k1=c5:=by omega
      simp[aR,m1,w,nQ1,g1,mr]
     ·have w: ¬k2=c5:=by omega
      simp[aR,m2,w,nQ2,g2]
     ·exact RY.mono (by omega) fun l a b=>by
       have w1: ∀j,¬l=S'.n+j:=fun j=>by omega
       have w2: ¬l=c5:=by omega
       have w3: ¬l=Q:=by omega
       simp[aR,w1,w2,w3]
     ·rw[ln];have w: ¬id=c5:=by omega
      have w3: ¬id=Q:=by omega
      refine qs.snoc (n:=S.n) (id:=id) (R:=Q) (R':=S'.n+5) (h:=S'.h) (ids:=ids) r3 r4 ?_ ?_ ?_ (by simp only;omega)
      ·simp[aR,rB,nk5]
      ·simp[aR,ni,w,w3,fg]
      ·intro l a b c;have w1: ∀j,¬l=S'.n+j:=fun j=>by omega
       have w2: ¬l=c5:=by omega
       simp[aR,w1,w2,c]
   have DN:(j:Int)<8:=by omega
   have vp:IntKind.i64.wrap ((j:Int)+1)=j+1:=wrap_i64 (by omega);have tH:j<x.bz.length:=by omega
   have Rw:(j:Int)<x.bz.length:=by omega
   obtain⟨⟨ct,cv⟩,sw⟩: ∃c,x.bz[j]=c:=⟨_,rfl⟩;have TB:=hx.cells.at tH;rw[sw]at TB;have LH:=TB.2;have ln:=C5 (aD:=aa) (key:=aq) (an:=ae) tH;rw[sw]at ln;have wG:=uq (aD:=aa) (key:=aq) (an:=ae) (bz:=x.bz) (i:=j) (by omega);obtain⟨al,has⟩: ∃q,gP aa aq ae x.bz j=q:=⟨_,rfl⟩;rw[has]at HO wG ln;have n1: ∀j,¬k=S'.n+j:=fun j=>by omega
   have m1: ∀j,¬k1=S'.n+j:=fun j=>by omega
   have m2: ∀j,¬k2=S'.n+j:=fun j=>by omega
   have m5: ∀j,¬c5=S'.n+j:=fun j=>by omega
   have nS: ∀j,¬c8=S'.n+j:=fun j=>by omega
   have nk: ¬c5=c8:=by omega
   have nk1: ¬k1=c8:=by omega
   have nk2: ¬k2=c8:=by omega
   have nk0: ¬k=c8:=by omega
   rcases HO with⟨K4,rfl⟩|⟨K4,id,i1,i2,rfl,fg⟩
   ·simp[aaE,j2,j3,j8,j42,j43,j44,g0,g1,g8,jP,DN,vp,hL,tH,Rw,sw,Cell.bS,LH,n1,m1,nS];refine⟨.cu (S'.n+14) 0 1,⟨by simp[aR,j2],by simp[aR,j3],by simp[aR,j4],by simp[aR,j5],by simp[aR,j8],by simp[aR,j20],by simp[aR,j21],by simp[aR,j22],by simp[aR,j42],by simp[aR,j43],by simp[aR]⟩,⟨by simp[aR,n1,nk0,g0],by simp[aR,m1,nk1,g1,mr],by simp[aR,m2,nk2,g2],by simp[aR,m5,nk,g5],by simp[aR]⟩,?_,?_,q1,q2,by simp only;omega,?_⟩
    ·exact RY.mono (by omega) fun l a b=>by
      have w1: ∀j,¬l=S'.n+j:=fun j=>by omega
      have w2: ¬l=c8:=by omega
      simp[aR,w1,w2]
    ·exact HT'.mono (by omega) fun l a b=>by
      have w1: ∀j,¬l=S'.n+j:=fun j=>by omega
      have w2: ¬l=c8:=by omega
      simp[aR,w1,w2]
    ·rw[ln,K4];have w: ∀j,¬S'.n+j=c8:=fun j=>by omega
     refine .inr ⟨by simp,S'.n+14,by omega,by simp only;omega,rfl,by simp[aR,w,Canon.bS]⟩
   ·have ni: ∀j,¬id=S'.n+j:=fun j=>by omega
    have n3: ¬c8=id:=by omega
    simp[aaE,j2,j3,j8,j42,j43,j44,g0,g1,g8,jP,DN,vp,hL,tH,Rw,sw,Cell.bS,LH,n1,m1,nS,fg,ni,n3];have x0: ¬k=id:=by omega
    have x1: ¬k1=id:=by omega
    have x2: ¬k2=id:=by omega
    have x5: ¬c5=id:=by omega
    refine⟨⟨by omega,by omega⟩,fun _ _=>⟨.cu (S'.n+14) 0 (al.length+1),⟨by simp[aR,j2],by simp[aR,j3],by simp[aR,j4],by simp[aR,j5],by simp[aR,j8],by simp[aR,j20],by simp[aR,j21],by simp[aR,j22],by simp[aR,j42],by simp[aR,j43],by simp[aR]⟩,⟨by simp[aR,n1,nk0,x0,g0],by simp[aR,m1,nk1,x1,g1,mr],by simp[aR,m2,nk2,x2,g2],by simp[aR,m5,nk,x5,g5],by simp[aR]⟩,?_,?_,q1,q2,by simp only;omega,?_⟩⟩
    ·exact RY.mono (by omega) fun l a b=>by
      have w1: ∀j,¬l=S'.n+j:=fun j=>by omega
      have w2: ¬l=c8:=by omega
      have w3: ¬l=id:=by omega
      simp[aR,w1,w2,w3]
    ·exact HT'.mono (by omega) fun l a b=>by
      have w1: ∀j,¬l=S'.n+j:=fun j=>by omega
      have w2: ¬l=c8:=by omega
      have w3: ¬l=id:=by omega
      simp[aR,w1,w2,w3]
    ·rw[ln];have w: ∀j,¬S'.n+j=c8:=fun j=>by omega
     refine .inr ⟨by simp,S'.n+14,by omega,by simp only;omega,by simp,by simp[aR,w,Canon.bS]⟩
  ·simp;have n1: ∀j,¬k=S.n+j:=fun j=>by omega
   have m1: ∀j,¬k1=S.n+j:=fun j=>by omega
   have m2: ∀j,¬k2=S.n+j:=fun j=>by omega
   have m5: ∀j,¬c5=S.n+j:=fun j=>by omega
   refine⟨.sl true [],⟨by simp[aR,f2],by simp[aR,f3],by simp[aR,f4],by simp[aR,f5],by simp[aR,<-hc8],by simp[aR,f20],by simp[aR,f21],by simp[aR,f22],by simp[aR],by simp[aR],by simp[aR]⟩,⟨by simp[aR,n1,h0],by simp[aR,m1,h1,mr],by simp[aR,m2,h2],by simp[aR,m5,h5],by simp[aR,<-hc8]⟩,?_,?_,Ps,D4,by simp only;omega,.inl ⟨uY _ _ _ _,rfl⟩⟩
   ·exact HRi.mono (aaI _) fun j a b=>by
     have n4: ∀l,¬j=S.n+l:=fun l=>by omega
     simp[aR,n4]
   ·exact HT.mono (aaI _) fun j a b=>by
     have n4: ∀l,¬j=S.n+l:=fun l=>by omega
     simp[aR,n4]
 ·simp;have n5: ∀j,j<13->k+j<k+13:=fun j hj=>by omega
  refine⟨.sl true [],⟨by simp[aR],by simp[aR,<-Eo],by simp[aR,<-xX],by simp[aR,<-hc5],by simp[aR],by simp[aR],by simp[aR]⟩,⟨by simp[aR],by simp[aR,mr,<-Eo],by simp[aR,<-xX],by simp[aR,<-hc5]⟩,?_,.inl ⟨rfl,rfl⟩,hkR,by simp only;omega⟩;exact HR.mono (aaI _) fun j a b=>by
   have n4: ¬j=k+11:=by omega
   have n5: ¬j<k+13:=by omega
   simp[aR,n4,n5]
def WE(aD:List Int)(key:Int)(an:List Int)(c:Canon):Cell:=(raw aD key an c).1
def N5(aD:List Int)(key:Int)(an:List Int)(cells:List Cell)(b:Nat)(x:List Canon):Nat->List Cell
 |0=>cells
 |k+1=>(N5 aD key an cells b x k).set (b+k) (WE aD key an (x.getD k ⟨0,0,0,0⟩))
def atj(h:k<x.length):N5 aD key an cells b x (k+1)=(N5 aD key an cells b x k).set (b+k) (WE aD key an x[k]):=by
 rw[N5];simp[List.getD,h]
def TE(aD:List Int)(key:Int)(an:List Int)(cells:List Cell)(b:Nat)(x:List Canon)(k:Nat):(N5 aD key an cells b x k).length=cells.length:=by
 induction k with
 |zero=>rfl
 |succ k ih=>rw[N5,aaN,ih]
def jO(aD:List Int)(key:Int)(an:List Int)(rs:List (List Canon)):Nat->List Cell
 |0=>List.replicate 512 ⟨0,0⟩
 |r+1=>N5 aD key an (jO aD key an rs r) (nth aD r).toNat (rs.getD r []) (rs.getD r []).length
def ad3(h:r<rs.length):jO aD key an rs (r+1)=N5 aD key an (jO aD key an rs r) (nth aD r).toNat rs[r] (rs[r]).length:=by
 rw[jO];simp[List.getD,h]
def JQ(aD:List Int)(key:Int)(an:List Int)(rs:List (List Canon))(r:Nat):(jO aD key an rs r).length=512:=by
 induction r with
 |zero=>simp[jO]
 |succ k ih=>rw[jO,TE,ih]
def yY(aD:List Int)(key:Int)(an:List Int)(l:List Canon):List Cell:=l.map (WE aD key an)
def N6(aD:List Int)(key:Int)(an:List Int)(l:List Canon):(yY aD key an l).length=l.length:=by simp[yY]
def ak8(h:i<l.length):yY aD key an (l.take (i+1))=yY aD key an (l.take i)++ [WE aD key an l[i]]:=by
 unfold yY;rw[fD h,abH];rfl
def ak9(aD:List Int)(key:Int)(an:List Int)(v:View):Thread:=⟨v.state,yY aD key an v.bz,v.pc,v.count,v.cn,v.saved,v.dn,v.code⟩
def qo(aD:List Int)(key:Int)(an:List Int)(l:List View):List Thread:=l.map (ak9 aD key an)
def C7(aD:List Int)(key:Int)(an:List Int)(l:List View):(qo aD key an l).length=l.length:=by simp[qo]
def ad4{l:List View}(h:i<l.length):qo aD key an (l.take (i+1))=qo aD key an (l.take i)++ [ak9 aD key an l[i]]:=by
 unfold qo;rw[fD h,abH];rfl
def Iv(p:Prog)(l:Layout)(s:State):aO:=⟨l,⟨jO l.aD l.key p.an s.regions s.regions.length,cm⟩,qo l.aD l.key p.an s.threads⟩
def atk(p:Prog)(s:State):Bool:=lY p.an (rm s s.threads.length)
def Ej(p:Prog)(l:Layout)(s:State):aO×Bool:=if atk p s=true then(Iv p l s,true) else(iT,false)
@[simp]def ad5(ax:List Instr)(ae:List Int)(ay:List (List Int))(aw:List Int)(bK:Int)(bF:List (List Canon))(ba:List View)(hp:rn (Prog.mk ax ae ay))(hL:ov aw ae)(hs:Ru (Prog.mk ax ae ay) (State.mk bF ba)):nr X [(0,4,112)] 93 [KKQ ax ae ay,KKc aw bK,KKw bF ba]=some (.dM [KKK ((Ej (Prog.mk ax ae ay) (Layout.mk aw bK) (State.mk bF ba)).1),.bool ((Ej (Prog.mk ax ae ay) (Layout.mk aw bK) (State.mk bF ba)).2)]):=by
 refine aaC ?_;have hz:oO ae:=hp.an;have z4:=hz.le;have hb:aw.length=ae.length:=hL.len;have lj:=mU.2 hL;have b1:aw.length<=1000000000/\ae.length<=1000000000:=by omega
 have r1:bF.length=ae.length:=hs.regions;have r2:=hs.region;have r3:ba.length=4:=hs.threads;have r4:=hs.view;simp only at r2 r4;have r1b:bF.length<=1000000000:=by omega
 have r3b:ba.length<=1000000000:=by omega
 have hle:(cm.map cy.e).length=4:=rfl;have Xs:=Ga (State.mk bF ba) (k:=ba.length) (aaI _);have hlm: ∀x∈rm (State.mk bF ba) ba.length,x.length<=1000000000:=fun x hx=>by
  unfold rm at hx;simp only[aew,adB]at hx;rcases hx with hx|⟨y,hy,rfl⟩
  ·obtain⟨i,hi,rfl⟩:=abE hx;have q1:i<ae.length:=by omega
   have:=(r2 i hi q1).1;have:=(hz.elem i q1).2;omega
  ·obtain⟨i,hi,rfl⟩:=abE (aaS hy);have:=(r4 i hi).bz;omega
 have hib:atk (Prog.mk ax ae ay) (State.mk bF ba)=lY ae (rm (State.mk bF ba) ba.length):=rfl;simp only at Xs;obtain⟨ls,hls⟩: ∃ls,rm (State.mk bF ba) ba.length=ls:=⟨_,rfl⟩;rw[hls]at hlm Xs hib;by_cases Br:lY ae ls=true
 case neg=>
  have e:Ej (Prog.mk ax ae ay) (Layout.mk aw bK) (State.mk bF ba)=(iT,false):=by unfold Ej;rw[hib,if_neg Br]
  rw[e];unfold iT;simp[hp,hs,lj,b1,r1b,r3b,hls];refine cZ (fun i S=>(S.f 3= .ptr 3 0 0/\S.h 3=some ⟨3,[KKQ ax ae ay],true⟩/\S.f 4= .ptr 4 0 0/\S.h 4=some ⟨2,[KKc aw bK],true⟩/\S.f 5= .ptr 5 0 0/\S.h 5=some ⟨2,[KKw bF ba],true⟩/\S.f 6= .ptr 6 0 0/\S.h 6=some ⟨5,[KKY ([]:List Int) 0 ([]:List Cell) ([]:List cy) ([]:List Thread)],true⟩/\S.f 37= .sl false ((ls).map bw)/\S.f 38= .int .i64 ((ls.length:Int))/\S.f 39=(i:Int)/\S.n=1100)/\(lY ae (ls.take i)=true)) (ls.length) (by omega) ?_ ?_ ?_
  ·rintro i S ⟨pq,ie,bL⟩ ⟨df,fp⟩;have LB:=hlm _ (aaL bL);simp[df,bL];refine cZ (fun j S=>(S.f 3= .ptr 3 0 0/\S.h 3=some ⟨3,[KKQ ax ae ay],true⟩/\S.f 4= .ptr 4 0 0/\S.h 4=some ⟨2,[KKc aw bK],true⟩/\S.f 5= .ptr 5 0 0/\S.h 5=some ⟨2,[KKw bF ba],true⟩/\S.f 6= .ptr 6 0 0/\S.h 6=some ⟨5,[KKY ([]:List Int) 0 ([]:List Cell) ([]:List cy) ([]:List Thread)],true⟩/\S.f 37= .sl false ((ls).map bw)/\S.f 38= .int .i64 ((ls.length:Int))/\S.f 39=(i:Int)/\S.f 43= .sl false ((ls[i]).map Canon.e)/\S.f 44= .int .i64 (((ls[i]).length:Int))/\S.f 45=(j:Int)/\S.n=1100)/\(pD ae ((ls[i]).take j)=true)) ((ls[i]).length) (by omega) ?_ ?_ ?_
   ·rintro j S ⟨mz,vp,jP⟩ ⟨mA,sF⟩;have ln:=GS (z:=ae) jP;rw[sF]at ln;by_cases c1:proper ae (ls[i])[j]=true
    ·rw[c1]at ln;simp[mA,vp,jP,c1,ln]
    ·simp[mA,jP,c1]
   ·rintro S ⟨mA,sF⟩;rw[DO]at sF;have ln:=DP (z:=ae) bL;rw[fp,sF]at ln;simp[bL,mA,ln,ie];try omega
   ·simp[df]<;>(
     rfl)
  ·rintro S ⟨df,fp⟩;simp[df]<;>(
    rw[B7]at fp;exact absurd fp Br)
  ·simp[]<;>(
    rfl)
 have e:Ej (Prog.mk ax ae ay) (Layout.mk aw bK) (State.mk bF ba)=(Iv (Prog.mk ax ae ay) (Layout.mk aw bK) (State.mk bF ba),true):=by unfold Ej;rw[hib,if_pos Br]
 rw[e];have hpi: ∀i (h:i<ls.length),pD ae ls[i]=true:=fun i h=>List.all_eq_true.1 Br _ (aaL h);have hpj: ∀i (h:i<ls.length) j (g:j<(ls[i]).length),proper ae (ls[i])[j]=true:=fun i h j g=>List.all_eq_true.1 (hpi i h) _ (aaL g);unfold Iv;simp[hp,hs,lj,b1,r1b,r3b,hls];refine cZ (fun i S=>(S.f 3= .ptr 3 0 0/\S.h 3=some ⟨3,[KKQ ax ae ay],true⟩/\S.f 4= .ptr 4 0 0/\S.h 4=some ⟨2,[KKc aw bK],true⟩/\S.f 5= .ptr 5 0 0/\S.h 5=some ⟨2,[KKw bF ba],true⟩/\S.f 6= .ptr 6 0 0/\S.h 6=some ⟨5,[KKY ([]:List Int) 0 ([]:List Cell) ([]:List cy) ([]:List Thread)],true⟩/\S.f 37= .sl false ((ls).map bw)/\S.f 38= .int .i64 ((ls.length:Int))/\S.f 39=(i:Int)/\S.n=1100)/\True) (ls.length) (by omega) ?_ ?_ ?_
 ·rintro i S ⟨pq,ie,bL⟩ ⟨Ah,O2⟩;have LB:=hlm _ (aaL bL);simp[Ah,bL];refine cZ (fun j S=>(S.f 3= .ptr 3 0 0/\S.h 3=some ⟨3,[KKQ ax ae ay],true⟩/\S.f 4= .ptr 4 0 0/\S.h 4=some ⟨2,[KKc aw bK],true⟩/\S.f 5= .ptr 5 0 0/\S.h 5=some ⟨2,[KKw bF ba],true⟩/\S.f 6= .ptr 6 0 0/\S.h 6=some ⟨5,[KKY ([]:List Int) 0 ([]:List Cell) ([]:List cy) ([]:List Thread)],true⟩/\S.f 37= .sl false ((ls).map bw)/\S.f 38= .int .i64 ((ls.length:Int))/\S.f 39=(i:Int)/\S.f 43= .sl false ((ls[i]).map Canon.e)/\S.f 44= .int .i64 (((ls[i]).length:Int))/\S.f 45=(j:Int)/\S.n=1100)/\True) ((ls[i]).length) (by omega) ?_ ?_ ?_
  ·rintro j S ⟨mz,vp,jP⟩ ⟨hI3,hP3⟩;have c1:=hpj i bL j jP;simp[hI3,vp,jP,c1]
  ·rintro S ⟨hI3,hP3⟩;simp[bL,hI3,ie];try omega
  ·simp[Ah]<;>(
    trivial)
 ·rintro S ⟨Ah,O2⟩;simp[Ah];refine⟨⟨by omega,by omega⟩,fun _ _=> ?_⟩;refine cZ (fun r S=>(S.f 3= .ptr 3 0 0/\S.h 3=some ⟨3,[KKQ ax ae ay],true⟩/\S.f 4= .ptr 4 0 0/\S.h 4=some ⟨2,[KKc aw bK],true⟩/\S.f 5= .ptr 5 0 0/\S.h 5=some ⟨2,[KKw bF ba],true⟩/\S.f 6= .ptr 6 0 0/\S.h 6=some ⟨5,[KKY ([]:List Int) 0 ([]:List Cell) ([]:List cy) ([]:List Thread)],true⟩/\S.f 12= .ptr 12 0 0/\S.h 1000=some ⟨2,(⟨⟨aw,bK⟩,⟨jO aw bK ae bF r,cm⟩,[]⟩:aO).memory.cells.map Cell.e,false⟩/\S.h 1001=some ⟨8,(⟨⟨aw,bK⟩,⟨jO aw bK ae bF r,cm⟩,[]⟩:aO).threads.map Thread.e,false⟩/\S.h 12=some ⟨5,[KKC (⟨⟨aw,bK⟩,⟨jO aw bK ae bF r,cm⟩,[]⟩:aO).layout.aD (⟨⟨aw,bK⟩,⟨jO aw bK ae bF r,cm⟩,[]⟩:aO).layout.key (.cu 1000 0 ((⟨⟨aw,bK⟩,⟨jO aw bK ae bF r,cm⟩,[]⟩:aO).memory.cells.map Cell.e).length) (⟨⟨aw,bK⟩,⟨jO aw bK ae bF r,cm⟩,[]⟩:aO).memory.lines (.cu 1001 0 ((⟨⟨aw,bK⟩,⟨jO aw bK ae bF r,cm⟩,[]⟩:aO).threads.map Thread.e).length)],true⟩/\S.f 68=bF/\S.f 69=((bF).length:Int)/\S.f 70=(r:Int)/\S.n=1102)/\True) (bF.length) (by omega) ?_ ?_ ?_
  ·rintro r S ⟨hir,PG,CR⟩ ⟨hI4,hP4⟩;have g1:r<ae.length:=by omega
   have g2:r<aw.length:=by omega
   have hd:=(r2 r CR g1).1;have H8:=hL.base r g2 g1;have hzz:=hz.elem r g1;obtain⟨b,Tt⟩: ∃b:Nat,aw[r]=b:=⟨(aw[r]).toNat,by omega⟩;have ln:jO aw bK ae bF (r+1)=N5 aw bK ae (jO aw bK ae bF r) b bF[r] (bF[r]).length:=by
    rw[ad3 CR,dC g2,Tt];rfl
   have Hr:=JQ aw bK ae bF r;simp[hI4,CR];refine cZ (fun o S=>(S.f 3= .ptr 3 0 0/\S.h 3=some ⟨3,[KKQ ax ae ay],true⟩/\S.f 4= .ptr 4 0 0/\S.h 4=some ⟨2,[KKc aw bK],true⟩/\S.f 5= .ptr 5 0 0/\S.h 5=some ⟨2,[KKw bF ba],true⟩/\S.f 6= .ptr 6 0 0/\S.h 6=some ⟨5,[KKY ([]:List Int) 0 ([]:List Cell) ([]:List cy) ([]:List Thread)],true⟩/\S.f 12= .ptr 12 0 0/\S.h 1000=some ⟨2,(⟨⟨aw,bK⟩,⟨N5 aw bK ae (jO aw bK ae bF r) b bF[r] o,cm⟩,[]⟩:aO).memory.cells.map Cell.e,false⟩/\S.h 1001=some ⟨8,(⟨⟨aw,bK⟩,⟨N5 aw bK ae (jO aw bK ae bF r) b bF[r] o,cm⟩,[]⟩:aO).threads.map Thread.e,false⟩/\S.h 12=some ⟨5,[KKC (⟨⟨aw,bK⟩,⟨N5 aw bK ae (jO aw bK ae bF r) b bF[r] o,cm⟩,[]⟩:aO).layout.aD (⟨⟨aw,bK⟩,⟨N5 aw bK ae (jO aw bK ae bF r) b bF[r] o,cm⟩,[]⟩:aO).layout.key (.cu 1000 0 ((⟨⟨aw,bK⟩,⟨N5 aw bK ae (jO aw bK ae bF r) b bF[r] o,cm⟩,[]⟩:aO).memory.cells.map Cell.e).length) (⟨⟨aw,bK⟩,⟨N5 aw bK ae (jO aw bK ae bF r) b bF[r] o,cm⟩,[]⟩:aO).memory.lines (.cu 1001 0 ((⟨⟨aw,bK⟩,⟨N5 aw bK ae (jO aw bK ae bF r) b bF[r] o,cm⟩,[]⟩:aO).threads.map Thread.e).length)],true⟩/\S.f 13= .int .i64 ((r:Int))/\S.f 68=bF/\S.f 69=((bF).length:Int)/\S.f 70=(r:Int)/\S.f 75= .sl false ((bF[r]).map Canon.e)/\S.f 76= .int .i64 (((bF[r]).length:Int))/\S.f 77=(o:Int)/\S.n=1102)/\True) ((bF[r]).length) (by omega) ?_ ?_ ?_
   ·rintro o S ⟨Bg,hwo,ady⟩ ⟨hI5,hP5⟩;have Eo:=TE aw bK ae (jO aw bK ae bF r) b bF[r] o;rw[Hr]at Eo;have hu:=atj (aD:=aw) (key:=bK) (an:=ae) (cells:=jO aw bK ae bF r) (b:=b) ady;unfold WE at hu;obtain⟨⟨ct,cv,cr,co⟩,sw⟩: ∃c,(bF[r])[o]=c:=⟨_,rfl⟩;rw[sw]at hu;have akz: ∀(x:Cell) (a b:Int),(Cell.e x).put 0 (V.agg [.int .u8 a,.int .u16 b])=V.agg [.int .u8 a,.int .u16 b]:=fun _ _ _=>rfl;obtain⟨q,hq⟩: ∃q:Nat,b+o=q:=⟨_,rfl⟩;rw[hq]at hu;have gY:q<512:=by omega
    have BQ:(q:Int)<512:=by omega
    have hw:IntKind.i64.wrap ((b:Int)+o)=(q:Int):=by rw[wrap_i64 (by omega)];omega
    simp[hI5,hwo,ady,hL,sw,g2,Tt,Eo,gY,BQ,hw,hu,List.getD,Cell.bS]
   ·rintro S ⟨hI5,hP5⟩;simp[CR,hI5,ln,PG]
   ·simp[hI4]<;>(
     exact⟨rfl,rfl⟩)
  ·rintro S ⟨hI4,hP4⟩;simp[hI4];refine cZ (fun k S=>(S.f 3= .ptr 3 0 0/\S.h 3=some ⟨3,[KKQ ax ae ay],true⟩/\S.f 4= .ptr 4 0 0/\S.h 4=some ⟨2,[KKc aw bK],true⟩/\S.f 6= .ptr 6 0 0/\S.h 6=some ⟨5,[KKY ([]:List Int) 0 ([]:List Cell) ([]:List cy) ([]:List Thread)],true⟩/\S.f 12= .ptr 12 0 0/\S.h 1000=some ⟨2,(⟨⟨aw,bK⟩,⟨jO aw bK ae bF bF.length,cm⟩,qo aw bK ae (ba.take k)⟩:aO).memory.cells.map Cell.e,false⟩/\S.h 1001=some ⟨8,(⟨⟨aw,bK⟩,⟨jO aw bK ae bF bF.length,cm⟩,qo aw bK ae (ba.take k)⟩:aO).threads.map Thread.e,false⟩/\S.h 12=some ⟨5,[KKC (⟨⟨aw,bK⟩,⟨jO aw bK ae bF bF.length,cm⟩,qo aw bK ae (ba.take k)⟩:aO).layout.aD (⟨⟨aw,bK⟩,⟨jO aw bK ae bF bF.length,cm⟩,qo aw bK ae (ba.take k)⟩:aO).layout.key (.cu 1000 0 ((⟨⟨aw,bK⟩,⟨jO aw bK ae bF bF.length,cm⟩,qo aw bK ae (ba.take k)⟩:aO).memory.cells.map Cell.e).length) (⟨⟨aw,bK⟩,⟨jO aw bK ae bF bF.length,cm⟩,qo aw bK ae (ba.take k)⟩:aO).memory.lines (.cu 1001 0 ((⟨⟨aw,bK⟩,⟨jO aw bK ae bF bF.length,cm⟩,qo aw bK ae (ba.take k)⟩:aO).threads.map Thread.e).length)],true⟩/\S.f 104=ba/\S.f 105=((ba).length:Int)/\S.f 106=(k:Int)/\S.n=1102)/\True) (ba.length) (by omega) ?_ ?_ ?_
   ·rintro k S ⟨IN,Ey,kG⟩ ⟨hI6,hP6⟩;have ln:=ad4 (aD:=aw) (key:=bK) (an:=ae) kG;have hr8:=(r4 k kG).bz;simp[hI6,kG];refine cZ (fun q S=>(S.f 3= .ptr 3 0 0/\S.h 3=some ⟨3,[KKQ ax ae ay],true⟩/\S.f 4= .ptr 4 0 0/\S.h 4=some ⟨2,[KKc aw bK],true⟩/\S.f 6= .ptr 6 0 0/\S.h 6=some ⟨5,[KKY ([]:List Int) 0 ([]:List Cell) ([]:List cy) ([]:List Thread)],true⟩/\S.f 12= .ptr 12 0 0/\S.h 1000=some ⟨2,(⟨⟨aw,bK⟩,⟨jO aw bK ae bF bF.length,cm⟩,qo aw bK ae (ba.take k)⟩:aO).memory.cells.map Cell.e,false⟩/\S.h 1001=some ⟨8,(⟨⟨aw,bK⟩,⟨jO aw bK ae bF bF.length,cm⟩,qo aw bK ae (ba.take k)⟩:aO).threads.map Thread.e,false⟩/\S.h 12=some ⟨5,[KKC (⟨⟨aw,bK⟩,⟨jO aw bK ae bF bF.length,cm⟩,qo aw bK ae (ba.take k)⟩:aO).layout.aD (⟨⟨aw,bK⟩,⟨jO aw bK ae bF bF.length,cm⟩,qo aw bK ae (ba.take k)⟩:aO).layout.key (.cu 1000 0 ((⟨⟨aw,bK⟩,⟨jO aw bK ae bF bF.length,cm⟩,qo aw bK ae (ba.take k)⟩:aO).memory.cells.map Cell.e).length) (⟨⟨aw,bK⟩,⟨jO aw bK ae bF bF.length,cm⟩,qo aw bK ae (ba.take k)⟩:aO).memory.lines (.cu 1001 0 ((⟨⟨aw,bK⟩,⟨jO aw bK ae bF bF.length,cm⟩,qo aw bK ae (ba.take k)⟩:aO).threads.map Thread.e).length)],true⟩/\S.f 19= .ptr 19 0 0/\S.h 1002=some ⟨2,(⟨(ba[k]).state,yY aw bK ae ((ba[k]).bz.take q),(ba[k]).pc,(ba[k]).count,(ba[k]).cn,(ba[k]).saved,(ba[k]).dn,(ba[k]).code⟩:Thread).bz.map Cell.e,false⟩/\S.h 19=some ⟨8,[KKd (⟨(ba[k]).state,yY aw bK ae ((ba[k]).bz.take q),(ba[k]).pc,(ba[k]).count,(ba[k]).cn,(ba[k]).saved,(ba[k]).dn,(ba[k]).code⟩:Thread).state (.cu 1002 0 ((⟨(ba[k]).state,yY aw bK ae ((ba[k]).bz.take q),(ba[k]).pc,(ba[k]).count,(ba[k]).cn,(ba[k]).saved,(ba[k]).dn,(ba[k]).code⟩:Thread).bz.map Cell.e).length) (⟨(ba[k]).state,yY aw bK ae ((ba[k]).bz.take q),(ba[k]).pc,(ba[k]).count,(ba[k]).cn,(ba[k]).saved,(ba[k]).dn,(ba[k]).code⟩:Thread).pc (⟨(ba[k]).state,yY aw bK ae ((ba[k]).bz.take q),(ba[k]).pc,(ba[k]).count,(ba[k]).cn,(ba[k]).saved,(ba[k]).dn,(ba[k]).code⟩:Thread).count (⟨(ba[k]).state,yY aw bK ae ((ba[k]).bz.take q),(ba[k]).pc,(ba[k]).count,(ba[k]).cn,(ba[k]).saved,(ba[k]).dn,(ba[k]).code⟩:Thread).cn (⟨(ba[k]).state,yY aw bK ae ((ba[k]).bz.take q),(ba[k]).pc,(ba[k]).count,(ba[k]).cn,(ba[k]).saved,(ba[k]).dn,(ba[k]).code⟩:Thread).saved (⟨(ba[k]).state,yY aw bK ae ((ba[k]).bz.take q),(ba[k]).pc,(ba[k]).count,(ba[k]).cn,(ba[k]).saved,(ba[k]).dn,(ba[k]).code⟩:Thread).dn (⟨(ba[k]).state,yY aw bK ae ((ba[k]).bz.take q),(ba[k]).pc,(ba[k]).count,(ba[k]).cn,(ba[k]).saved,(ba[k]).dn,(ba[k]).code⟩:Thread).code],true⟩/\S.f 104=ba/\S.f 105=((ba).length:Int)/\S.f 106=(k:Int)/\S.f 126= .sl false (((ba[k]).bz).map Canon.e)/\S.f 127= .int .i64 (((ba[k]).bz.length:Int))/\S.f 128=(q:Int)/\S.n=1103)/\True) ((ba[k]).bz.length) (by omega) ?_ ?_ ?_
    ·rintro q S ⟨hiq,hwq,a0m⟩ ⟨hI7,hP7⟩;have hu:=ak8 (aD:=aw) (key:=bK) (an:=ae) a0m;unfold WE at hu;obtain⟨⟨ct,cv,cr,co⟩,sw⟩: ∃c,((ba[k]).bz)[q]=c:=⟨_,rfl⟩;rw[sw]at hu;have qJ:=N6 aw bK ae ((ba[k]).bz.take q);rw[acT (by omega)]at qJ;simp[hI7,hwq,a0m,hL,sw,hu];exact⟨⟨by omega,by omega⟩,fun _ _=>rfl⟩
    ·rintro S ⟨hI7,hP7⟩;have np:=C7 aw bK ae (ba.take k);rw[acT (by omega)]at np;simp[kG,hI7,ln,Ey];exact⟨⟨by omega,by omega⟩,fun _ _=>rfl⟩
    ·simp[hI6]<;>(
      trivial)
   ·rintro S ⟨hI6,hP6⟩;simp[hI6,k9]
   ·simp[hI4]<;>(
     trivial)
  ·simp[Ah]<;>(
    trivial)
 ·simp[]<;>(
   trivial)
structure uv (p:Prog) (d:Int) (s:State):Prop where
 p:Ru p s
 rv: ∀l∈s.regions,hX l
 tv: ∀v∈s.threads,hX v.bz/\(0<=v.code/\v.code<=65535)/\v.count<=d
def WH:C3 ⟨0,0,0,0⟩:=⟨by simp,by simp⟩
def hX.getD{l:List Canon}(h:hX l)(i:Nat):C3 (l.getD i ⟨0,0,0,0⟩):=by
 rcases aaR i l.length with g|g
 ·rw[aaQ,aaJ g];exact h _ (aaL g)
 ·rw[aaQ,abC g];exact WH
def apf{aD:List Int}{key:Int}{an:List Int}{cells:List Cell}{b:Nat}{x:List Canon}(h:ep cells)(hx:hX x): ∀k,ep (N5 aD key an cells b x k)
 |0=>h
 |k+1=>(apf h hx k).set (wx (hx.getD k)) _
def TF{aD:List Int}{key:Int}{an:List Int}{rs:List (List Canon)}(h: ∀l∈rs,hX l): ∀r,ep (jO aD key an rs r)
 |0=>y9 512
 |r+1=>apf (TF h r) (by
   rcases aaR r rs.length with g|g
   ·rw[aaQ,aaJ g];exact h _ (aaL g)
   ·rw[aaQ,abC g];exact .nil) _
def Sa(h:cells.length=512)(hc:ep cells):ql ⟨cells,cm⟩:=by
 have el: ∀i,i<4->cm[i]?=some eD:=fun i hi=>by unfold cm;rw[List.getElem?_replicate,if_pos hi]
 refine⟨⟨h,rfl,JU hc,fun i hi=> ?_⟩,hc,fun i=> ?_⟩
 ·have e:(aF.mk cells cm).lines[i]=eD:=by
   have e2:(aF.mk cells cm).lines[i]?=some eD:=el i (by simpa[cm] using hi);rw[aaJ hi]at e2;exact aeA e2
  rw[e];exact zD.1 rfl
 ·unfold dZ;by_cases hi:i<4
  ·simp only[List.getD,el i hi,abR];exact fun c hc=>by cases hc
  ·have:(aF.mk cells cm).lines[i]?=none:=abC (by simp[cm];omega);simp only[List.getD,this,adA];exact fun c hc=>by cases hc
def atm(h:hX l):ep (yY aD key an l):=fun c hc=>by
 unfold yY at hc;obtain⟨x,hx,rfl⟩:=List.mem_map.1 hc;exact wx (h x hx)
def ale{l:Layout}{s:State}(hp:rn p)(hL:ov l.aD p.an)(hk:0<=l.key/\l.key<=65535)(hs:uv p d s):db p d (Iv p l s):=by
 refine⟨hp,hL,hk,Sa (JQ ..) (TF hs.rv _),by simp[Iv,C7,hs.p.threads],fun i hi=> ?_,fun _=>JE _ _⟩;have oE:i<s.threads.length:=by simpa[Iv,C7] using hi
 have e:(Iv p l s).threads[i]=ak9 l.aD l.key p.an s.threads[i]:=by simp[Iv,qo]
 rw[e];have v:=hs.p.view i oE;obtain⟨t1,t2,t3⟩:=hs.tv _ (aaL oE);exact⟨v.state,by simp[ak9,N6,v.bz],atm t1,v.pc,⟨v.count.1,t3⟩,v.cn,v.saved,v.dn,t2⟩
def TG(hL:ov aD an){c:Cell}(hc:jd c):lK (canon aD key an c)=true:=by
 have z4:=hL.sz.le;unfold canon;split
 ·simp[lK]
 split
 ·simp[lK]
 split
 ·rename_i h;obtain⟨k,hk,qT,e,b1,b2⟩:=jY h;have zz:=hL.sz.elem k qT;rw[e];simp[lK];omega
 ·have:=hc.2;simp[lK];omega
def Oc(h: ∀c∈l,lK c=true):jc l=true:=List.all_eq_true.2 h
def GX(hL:ov aD an)(hM:ql mem)(r:Nat):jc (uZ aD key an mem r)=true/\hX (uZ aD key an mem r):=by
 refine⟨Oc fun c hc=> ?_,TC hM _ _⟩;unfold uZ mu at hc;obtain⟨x,hx,rfl⟩:=List.mem_map.1 hc;exact TG hL (ep.look hM _)
def WI(h:db p d m)(hd:d<=1099511627776):uv p d (sU p m):=by
 have hz:=h.prog.an;refine⟨⟨by simp[sU,vy],fun i hi oE=> ?_,by simp[sU,pA,h.len],fun i hi=> ?_⟩,fun l hl=> ?_,fun v hv=> ?_⟩
 ·have e:(sU p m).regions[i]=uZ m.layout.aD m.layout.key p.an m.memory i:=by simp[sU,la]
  rw[e];have:=hz.elem i oE;refine⟨?_,(GX h.lay h.mem i).1⟩;unfold uZ;rw[tL,dC oE];omega
 ·have oE:i<m.threads.length:=by simpa[sU,pA] using hi
  have e:(sU p m).threads[i]=B6 m.layout.aD m.layout.key p.an m.threads[i]:=by simp[sU,pA]
  rw[e];have x:=h.pg i oE;exact⟨x.state,x.pc,⟨x.count.1,by have:=x.count.2;simp only[B6];omega⟩,x.cn,x.saved,x.dn,by simp[B6,x.bz],Oc fun c hc=>by
   simp only[B6]at hc;obtain⟨y,hy,rfl⟩:=List.mem_map.1 hc;exact TG h.lay (x.cells y hy)⟩
 ·simp only[sU,la]at hl;obtain⟨r,_,rfl⟩:=List.mem_map.1 hl;exact(GX h.lay h.mem r).2
 ·simp only[sU,pA]at hv;obtain⟨x,hx,rfl⟩:=List.mem_map.1 hv;obtain⟨i,hi,rfl⟩:=abE hx;have g:=h.pg i hi;exact⟨fun c hc=>by
   simp only[B6]at hc;obtain⟨y,hy,rfl⟩:=List.mem_map.1 hc;exact K2 (g.cells y hy),g.code,g.count.2⟩
def J8(h:0<=c/\c<=15):uS c=((de c).length:Int):=if_neg (by omega)
def amg(h:0<=c/\c<=15):0<=mC c:=by
 unfold mC;rw[if_neg (by omega)];split
 ·omega
 ·split<;>omega
@[simp]def Em(ax:List Instr)(ae:List Int)(ay:List (List Int))(aa:List Int)(aq:Int)(ak:List Cell)(ah:List cy)(au:List Thread)(t:Int)(hm:au.length=4)(ht:0<=t/\t<4)(hL:ov aa ae)(hl:ax.length<=1000)(hr:(au.getD t.toNat cw).bz.length=8)(Fo:yJ (au.getD t.toNat cw).bz)(hp:1<=(au.getD t.toNat cw).pc/\(au.getD t.toNat cw).pc<=ax.length)(ho:(kQ ax (au.getD t.toNat cw).pc).op=23)(hc:0<=(kQ ax (au.getD t.toNat cw).pc).ed/\(kQ ax (au.getD t.toNat cw).pc).ed<=15)(D1:(au.getD t.toNat cw).pc<=255):bW X 154 [KKQ ax ae ay,KKY aa aq ak ah au,.int .i64 t]=some (.int .i64 (vx aa ae ax.length (kQ ax (au.getD t.toNat cw).pc).ed (au.getD t.toNat cw).bz)):=by
 refine aaA ?_;obtain⟨k,rfl⟩:=aaG ht.1;have hk:k<au.length:=by omega
 have xS:(k:Int)<4:=by omega
 have hkn: ¬(4:Int)<=(k:Int):=by omega
 have hk4:k<4:=by omega
 have hkz: ¬(k:Int)<0:=by omega
 have hx:au.getD (k:Int).toNat cw=au[k]:=by simp[List.getD,hk]
 rw[hx]at hr Fo hp ho hc D1⊢;have XZ:=NG hp ho;have hp0:0<=(au[k]).pc/\(au[k]).pc<=255:=by omega
 obtain⟨c,s7⟩: ∃c,(kQ ax (au[k]).pc).ed=c:=⟨_,rfl⟩;rw[s7]at hc XZ⊢;obtain⟨bz,Ef⟩: ∃r,(au[k]).bz=r:=⟨_,rfl⟩;rw[Ef]at hr Fo⊢;have k3:=pf hc;have tl:=Gm hc hr;have c0:=Fo 0 (by omega);have c1:=Fo 1 (by omega);have c2:=Fo 2 (by omega);obtain⟨r0,e0⟩: ∃x,bz[0]'(by omega)=x:=⟨_,rfl⟩;obtain⟨⟨r1t,Rx⟩,e1⟩: ∃x,bz[1]'(by omega)=x:=⟨_,rfl⟩;obtain⟨r2,e2⟩: ∃x,bz[2]'(by omega)=x:=⟨_,rfl⟩;rw[e0]at c0;rw[e1]at c1;rw[e2]at c2;simp only at c1;have g0:bz.getD 0 ⟨0,0⟩=r0:=by simp[List.getD,hr,e0]
 have g1:bz.getD 1 ⟨0,0⟩=⟨r1t,Rx⟩:=by simp[List.getD,hr,e1]
 have g2:bz.getD 2 ⟨0,0⟩=r2:=by simp[List.getD,hr,e2]
 have q0:bz[0]?.getD ⟨0,0⟩=r0:=g0;have q1:bz[1]?.getD ⟨0,0⟩=⟨r1t,Rx⟩:=g1;have q2:bz[2]?.getD ⟨0,0⟩=r2:=g2;have l0:0<bz.length:=by omega
 have l1:1<bz.length:=by omega
 have l2:2<bz.length:=by omega
 have v1:0<=Rx/\Rx<=65535:=by omega
 have v2':r2.val<=1000000:=by omega
 have w0:IntKind.i64.wrap r0.val=r0.val:=wrap_i64 (by omega);have w2:IntKind.i64.wrap r2.val=r2.val:=wrap_i64 (by omega);have hA:uS c=((de c).length:Int):=J8 hc;have hbm:=amg hc;have hmx:(if 0<(de c).length then((de c).length:Int) else 0)=((de c).length:Int):=by split<;>omega
 rw[CX,g0,g1,g2];simp[hm,xS,hkn,hk4,hkz,hl,hp0,XZ,hA,Ef];refine cZ (fun i S=>(S.f 3= .ptr 3 0 0/\S.h 3=some ⟨3,[KKQ ax ae ay],true⟩/\S.f 4= .ptr 4 0 0/\S.h 4=some ⟨5,[KKY aa aq ak ah au],true⟩/\S.f 7= .ptr 7 0 0/\S.h 7=some ⟨8,[KKe (au[k])],true⟩/\S.f 8= .int .i64 (c)/\S.f 9= .cu 9 0 ((((mD c bz).take i).map (V.int .u8))).length/\S.h 9=some ⟨1,(((mD c bz).take i).map (V.int .u8)),false⟩/\S.f 33= .int .i64 (((de c).length:Int))/\S.f 34=(i:Int)/\S.n=1100)/\True) ((de c).length) (by omega) ?_ ?_ ?_
 ·rintro i S ⟨pq,ie,bL⟩ ⟨df,fp⟩;have i8:i<8:=by omega
  have XO:(i:Int)<8:=by omega
  have il:i<bz.length:=by omega
  have it:i<(mD c bz).length:=by omega
  have ta:=Jz it il;have gi:bz[i]?.getD ⟨0,0⟩=bz[i]:=by rw[aaJ il];rfl
  have tg:=qj (f:=V.int .u8) it;rw[ta]at tg;have b1:i<=140737488355327:=by omega
  have b2:i<=4611686018427387903:=by omega
  have lO:min (i+1) (de c).length=i+1:=by omega
  simp[df,pq,ie,bL,Ef,hr,i8,XO,tl,tg,b1,b2,lO]
 ·rintro S ⟨df,fp⟩;have kb:(de c).length<=1000000000:=by omega
  have tm: ∀f:Int->V,List.take (de c).length ((mD c bz).map f)=(mD c bz).map f:=fun f=>aZ (by simp[tl]);have tmo: ∀f:Int->Option V,List.take (de c).length ((mD c bz).map f)=(mD c bz).map f:=fun f=>aZ (by simp[tl]);have tt:(mD c bz).take (de c).length=mD c bz:=aZ (by omega);cases IP:iH (de c) (mD c bz) with
  |false=>
   simp[df,kb,tl,tt,tm,hc,IP]
  |true=>
   by_cases hb:0<mC c
   ·have Xy: ¬mC c=0:=by omega
    by_cases hw:(kh aa ae ⟨r1t,Rx⟩ r2.val).2=0
    ·by_cases h16:16<r2.val
     ·simp[df,kb,tl,tt,tm,hc,IP,hb,Xy,hL,v1,v2',w2,Ef,hr,e1,e2,hw,h16]
     ·have n10: ¬c=10:=fun e=>by rw[e]at hb;revert hb;decide
      have n12: ¬c=12:=fun e=>by rw[e]at hb;revert hb;decide
      simp[df,kb,tl,tt,tm,hc,IP,hb,Xy,hL,v1,v2',w2,Ef,hr,e1,e2,hw,h16,n10,n12]
    ·simp[df,kb,tl,tt,tm,hc,IP,hb,Xy,hL,v1,v2',w2,Ef,hr,e1,e2,hw]
   ·have hbz:mC c=0:=by omega
    by_cases KW:c=10
    ·have NH:=eq_true KW;by_cases hv:(ax.length:Int)<=r0.val
     ·simp[df,kb,tl,tt,tm,hc,IP,hbz,w0,Ef,hr,e0,NH,hv]
     ·simp[df,kb,tl,tt,tm,hc,IP,hbz,w0,Ef,hr,e0,NH,hv]
    ·by_cases OZ:c=12
     ·have acs:=eq_true OZ;by_cases hv:(ax.length:Int)<=r0.val
      ·simp[df,kb,tl,tt,tm,hc,IP,hbz,w0,Ef,hr,e0,KW,acs,hv]
      ·simp[df,kb,tl,tt,tm,hc,IP,hbz,w0,Ef,hr,e0,KW,acs,hv]
     ·simp[df,kb,tl,tt,tm,hc,IP,hbz,KW,OZ]
 ·simp[hmx,Ef]
def Two(k:Nat)(A D:List Canon)(v:V)(h:bh)(n:Nat):Prop:= ∃vA vD,v= .dM [vA,vD]/\C6 Canon.e 4 k A vA h n/\C6 Canon.e 4 k D vD h n
def C6.lower{f:α->V}{c k':Nat}{l:List α}(H:C6 f c k l v h n)(hk:k'<=k):C6 f c k' l v h n:=by
 rcases H with H|⟨h0,id,k1,k2,e,g⟩
 ·exact .inl H
 ·exact .inr ⟨h0,id,by omega,k2,e,g⟩
@[simp]def amh(ax:List Instr)(ae:List Int)(ay:List (List Int))(aa:List Int)(aq:Int)(ak:List Cell)(ah:List cy)(au:List Thread)(iu:Int)(cN:List Cell)(jQ dQ cX dS jw jx call:Int)(k:Nat)(hL:ov aa ae)(hM:ql ⟨ak,ah⟩)(hr:cN.length=8)(hrc:ep cN)(hc:0<=call/\call<=15)(hb:mC call=1->0<=(cN.getD 1 ⟨0,0⟩).val/\0<=(cN.getD 2 ⟨0,0⟩).val/\(cN.getD 2 ⟨0,0⟩).val<=16/\(cN.getD 1 ⟨0,0⟩).val+(cN.getD 2 ⟨0,0⟩).val<=512): ∃v h' k',cL X 157 [KKQ ax ae ay,KKY aa aq ak ah au,KKg iu cN jQ dQ cX dS jw jx,.int .i64 call] pP k=some (v,h',k')/\Two k (gP aa aq ae cN (de call).length) (if mC call=1 then mu aa aq ae ⟨ak,ah⟩ (cN.getD 1 ⟨0,0⟩).val.toNat (cN.getD 2 ⟨0,0⟩).val.toNat else []) v h' k':=by
 have l1:1<cN.length:=by omega
 have l2:2<cN.length:=by omega
 obtain⟨⟨r1t,Rx⟩,e1⟩: ∃x,cN[1]'l1=x:=⟨_,rfl⟩;obtain⟨⟨r2t,r2v⟩,e3⟩: ∃x,cN[2]'l2=x:=⟨_,rfl⟩;have g1:cN.getD 1 ⟨0,0⟩=⟨r1t,Rx⟩:=by simp[List.getD,hr,e1]
 have g2:cN.getD 2 ⟨0,0⟩=⟨r2t,r2v⟩:=by simp[List.getD,hr,e3]
 have q1:cN[1]?.getD ⟨0,0⟩=⟨r1t,Rx⟩:=g1;have q2:cN[2]?.getD ⟨0,0⟩=⟨r2t,r2v⟩:=g2;rw[g1,g2]at hb⊢;simp only at hb⊢;have k3:=pf hc;have hA:uS call=((de call).length:Int):=J8 hc;have z:=uY aa aq ae cN;have kk: ∀j,¬k=k+1+j:=fun j=>by omega
 refine aaB ?_;simp[aaE,hA];refine lS (fun i S=>(S.f 3= .int .i64 call/\S.f 4= .ptr k 0 0/\S.f 5= .ptr (k+1) 0 0/\S.f 6= .ptr (k+2) 0 0/\S.f 11= .sl true []/\S.f 18=((de call).length:Int)/\S.f 19=(i:Int))/\
  (S.h k=some ⟨3,[KKQ ax ae ay],true⟩/\S.h (k+1)=some ⟨5,[KKY aa aq ak ah au],true⟩/\S.h (k+2)=some ⟨8,[KKg iu cN jQ dQ cX dS jw jx],true⟩)/\
  C6 Canon.e 4 (k+3) (gP aa aq ae cN i) (S.f 10) S.h S.n/\k+3<=S.n) (de call).length ?_ 0 (by simp) ?_
 ·rintro i S hi ⟨⟨f3,f4,f5,f6,f11,f18,f19⟩,⟨h0,h1,h2⟩,HO,hn⟩;have n0: ∀j,¬k=S.n+j:=fun j=>by omega
  have n1: ∀j,¬k+1=S.n+j:=fun j=>by omega
  have n2: ∀j,¬k+2=S.n+j:=fun j=>by omega
  have len:=uq (aD:=aa) (key:=aq) (an:=ae) (bz:=cN) (i:=i) (by omega);by_cases gY:i<(de call).length
  ·have i8:i<8:=by omega
   have XO:(i:Int)<8:=by omega
   have il:i<cN.length:=by omega
   have ie:=nd i (by omega);have up:=C5 (aD:=aa) (key:=aq) (an:=ae) il;obtain⟨⟨ct,cv⟩,sw⟩: ∃x,cN[i]=x:=⟨_,rfl⟩;have s7:=sw▸hrc.at il;have LH:=s7.2;have hct:ct=0\/ct=1\/ct=2:=by have:=s7.1;simp only at this;omega
   simp only at LH;rw[sw]at up;have gi:cN[i]?.getD ⟨0,0⟩=⟨ct,cv⟩:=by rw[aaJ il,sw];rfl
   obtain⟨xs,hxs⟩: ∃q,gP aa aq ae cN i=q:=⟨_,rfl⟩;rw[hxs]at HO up len;rcases HO with⟨e0,j10⟩|⟨e0,id,b1,b2,j10,fg⟩
   ·simp[aaE,f3,f4,f5,f6,f11,f18,f19,h0,h1,h2,n0,gY,hr,hL,i8,XO,sw,LH,hct,ie,j10];refine⟨?_,by omega⟩;rw[up,e0];exact .inr ⟨by simp,S.n+13,by omega,by omega,rfl,by simp[aR,Canon.bS]⟩
   ·have ni: ∀j,¬id=S.n+j:=fun j=>by omega
    simp[aaE,f3,f4,f5,f6,f11,f18,f19,h0,h1,h2,n0,gY,hr,hL,i8,XO,sw,LH,hct,ie,j10,fg];refine⟨⟨by omega,by omega⟩,fun _ _=>⟨⟨by omega,by omega,by omega⟩,?_,by omega⟩⟩;rw[up];exact .inr ⟨by simp,S.n+13,by omega,by omega,by simp,by simp[aR,Canon.bS]⟩
  ·have hei:i=(de call).length:=by omega
   subst hei;by_cases hbc:mC call=1
   case neg=>
    have wL:=eq_false hbc;simp[aaE,f3,f11,f18,f19,wL];exact⟨_,_,rfl,(HO.mono (by omega) fun i a b=>by simp).lower (by omega),.inl ⟨rfl,rfl⟩⟩
   have wL:=eq_true hbc;obtain⟨w1,w2,w3,w4⟩:=hb hbc;obtain⟨a1,rfl⟩:=aaG w1;obtain⟨OA,rfl⟩:=aaG w2;have n16:OA<=16:=by omega
   have tz:IntKind.i64.wrap (a1:Int)=a1:=wrap_i64 (by omega);have Ht:IntKind.i64.wrap (OA:Int)=OA:=wrap_i64 (by omega);have hMP:uf ⟨ak,ah⟩:=hM.mem;simp[aaE,f3,f6,f18,f19,h2,wL,hr,e1,e3,tz,Ht];obtain⟨m0,hm0⟩: ∃q,S.n=q:=⟨_,rfl⟩;rw[hm0]at HO hn;refine lS (fun j S'=>(S'.f 4= .ptr k 0 0/\S'.f 5= .ptr (k+1) 0 0/\S'.f 13=(a1:Int)/\S'.f 44=(OA:Int)/\S'.f 45=(j:Int))/\
    (S'.h k=some ⟨3,[KKQ ax ae ay],true⟩/\S'.h (k+1)=some ⟨5,[KKY aa aq ak ah au],true⟩)/\
    C6 Canon.e 4 (k+3) (gP aa aq ae cN (de call).length) (S'.f 10) S'.h m0/\C6 Canon.e 4 m0 (mu aa aq ae ⟨ak,ah⟩ a1 j) (S'.f 11) S'.h S'.n/\m0<=S'.n) OA ?_ 0 (by simp) ?_
   ·rintro j S' hj ⟨⟨j4,j5,j13,j44,j45⟩,⟨g0,g1'⟩,HA,HD,OW⟩;have n0': ∀i,¬k=S'.n+i:=fun i=>by omega
    have XQ: ∀i,¬k+1=S'.n+i:=fun i=>by omega
    have bch:=tL aa aq ae ⟨ak,ah⟩ a1 j;by_cases LB:j<OA
    ·have up:=GO aa aq ae ⟨ak,ah⟩ a1 j;obtain⟨qa,hqa⟩: ∃q:Nat,a1+j=q:=⟨_,rfl⟩;rw[hqa]at up;have haq:0<=(qa:Int)/\(qa:Int)<512:=by omega
     have vp:=nd j (by omega);have JO:IntKind.i64.wrap ((a1:Int)+j)=(qa:Int):=by rw[wrap_i64 (by omega)];omega
     have hlk:=ep.look hM qa;have afk:=Nj ak ah (qa:Int) hMP haq;rw[aaH]at afk;obtain⟨⟨ct,cv⟩,sw⟩: ∃x,look ⟨ak,ah⟩ qa=x:=⟨_,rfl⟩;rw[sw]at up hlk afk;have LH:=hlk.2;have hct:ct=0\/ct=1\/ct=2:=by have:=hlk.1;simp only at this;omega
     try simp only at LH
     try simp only at afk
     obtain⟨xs,hxs⟩: ∃q,mu aa aq ae ⟨ak,ah⟩ a1 j=q:=⟨_,rfl⟩;rw[hxs]at HD up bch;rcases HD with⟨e0,j11⟩|⟨e0,id,b1,b2,j11,fg⟩
     ·simp[aaE,j4,j5,j13,j44,j45,g0,g1',n0',LB,hL,JO,vp,afk,LH,hct,j11];refine⟨?_,?_,by omega⟩
      ·exact HA.mono (aaI _) fun i a b=>by
        have n4: ∀j,¬i=S'.n+j:=fun j=>by omega
        simp[aR,n4]
      ·rw[up,e0];exact .inr ⟨by simp,S'.n+23,by omega,by omega,rfl,by simp[aR,Canon.bS]⟩
     ·have ni: ∀j,¬id=S'.n+j:=fun j=>by omega
      simp[aaE,j4,j5,j13,j44,j45,g0,g1',n0',LB,hL,JO,vp,afk,LH,hct,j11,fg,ni];refine⟨⟨by omega,by omega⟩,fun _ _=>⟨⟨by omega,by omega⟩,?_,?_,by omega⟩⟩
      ·exact HA.mono (aaI _) fun i a b=>by
        have n4: ∀j,¬i=S'.n+j:=fun j=>by omega
        have n5: ¬i=id:=by omega
        simp[aR,n4,n5]
      ·rw[up];exact .inr ⟨by simp,S'.n+23,by omega,by omega,by simp,by simp[aR,Canon.bS]⟩
    ·have hej:j=OA:=by omega
     subst hej;simp[aaE,j44,j45];exact⟨_,_,rfl,(HA.mono (by omega) fun i a b=>by simp).lower (by omega),(HD.mono (by omega) fun i a b=>by simp).lower (by omega)⟩
   ·simp;exact⟨⟨f4,f5⟩,⟨h0,h1⟩,HO,.inl ⟨RO ..,f11⟩,by omega⟩
 ·simp;exact .inl ⟨z,rfl⟩
def Bf(l:List Canon):kL (some ⟨4,l.map Canon.e,false⟩)=some ⟨4,l.map Canon.e,false⟩:=by
 show(if(l.map Canon.e).all V.LN=true then some (Ob.mk 4 (l.map Canon.e) false) else none)=_;rw[if_pos];rw[aaP];intro x hx;obtain⟨c, -,rfl⟩:=List.mem_map.1 hx;rfl
@[simp]def Uc(ax:List Instr)(ae:List Int)(ay:List (List Int))(aa:List Int)(aq:Int)(ak:List Cell)(ah:List cy)(au:List Thread)(t n:Int)(hr:An (aO.mk (Layout.mk aa aq) (aF.mk ak ah) au))(hv:jU (Prog.mk ax ae ay) (aO.mk (Layout.mk aa aq) (aF.mk ak ah) au)=true)(ht:0<=t/\t<4)(hn:1<=n/\n<=64):bW X 74 [KKQ ax ae ay,KKY aa aq ak ah au,.int .i64 t,.int .i64 n]=some (.dM [KKK ((gN (Prog.mk ax ae ay) (aO.mk (Layout.mk aa aq) (aF.mk ak ah) au) t n).1),KKW ((gN (Prog.mk ax ae ay) (aO.mk (Layout.mk aa aq) (aF.mk ak ah) au) t n).2.1),.int .i64 0]):=by
 refine aaA ?_;have e:gN (Prog.mk ax ae ay) (aO.mk (Layout.mk aa aq) (aF.mk ak ah) au) t n=((mw (Prog.mk ax ae ay) (dN (Prog.mk ax ae ay) (aO.mk (Layout.mk aa aq) (aF.mk ak ah) au) t.toNat n).1 t.toNat (dN (Prog.mk ax ae ay) (aO.mk (Layout.mk aa aq) (aF.mk ak ah) au) t.toNat n).2).1,(mw (Prog.mk ax ae ay) (dN (Prog.mk ax ae ay) (aO.mk (Layout.mk aa aq) (aF.mk ak ah) au) t.toNat n).1 t.toNat (dN (Prog.mk ax ae ay) (aO.mk (Layout.mk aa aq) (aF.mk ak ah) au) t.toNat n).2).2,0):=if_pos ⟨hv,ht,hn⟩;rw[e];have rK:=afa ax ae ay aa aq ak ah au t n hr hv ht hn;obtain⟨k,rfl⟩:=aaG ht.1;have k4:k<4:=by omega
 have EH:(k:Int)<4:=by omega
 have MG:=yN hr hv;simp only[aaH]at rK⊢;have SG:(dN (Prog.mk ax ae ay) (aO.mk (Layout.mk aa aq) (aF.mk ak ah) au) k n).2=3/\db (Prog.mk ax ae ay) (1099511627776+n) (dN (Prog.mk ax ae ay) (aO.mk (Layout.mk aa aq) (aF.mk ak ah) au) k n).1\/AY (Prog.mk ax ae ay) (1099511627776+n) k (dN (Prog.mk ax ae ay) (aO.mk (Layout.mk aa aq) (aF.mk ak ah) au) k n):=by
  by_cases hs:(cg (aO.mk (Layout.mk aa aq) (aF.mk ak ah) au) k).state=1
  ·exact .inr (C0 MG k4 hn.1 hs)
  ·have e1:dN (Prog.mk ax ae ay) (aO.mk (Layout.mk aa aq) (aF.mk ak ah) au) k n=((aO.mk (Layout.mk aa aq) (aF.mk ak ah) au),3):=by unfold dN;exact if_neg hs
   rw[e1];exact .inl ⟨rfl,MG.mono (by omega)⟩
 obtain⟨⟨⟨bs,key⟩,⟨cs,ls⟩,ts⟩,s,hms⟩: ∃mm s,dN (Prog.mk ax ae ay) (aO.mk (Layout.mk aa aq) (aF.mk ak ah) au) k n=(mm,s):=⟨_,_,rfl⟩;rw[hms]at rK SG⊢;simp only at rK SG⊢;have HG:db (Prog.mk ax ae ay) (1099511627776+n) ⟨⟨bs,key⟩,⟨cs,ls⟩,ts⟩:=by
  rcases SG with h|h
  ·exact h.2
  ·exact h.NN
 have hl:ts.length=4:=HG.len;have kl:k<ts.length:=by omega
 have hx:cg ⟨⟨bs,key⟩,⟨cs,ls⟩,ts⟩ k=ts[k]:=iS kl;have pn:=HG.pg k kl;simp only at pn;obtain⟨⟨st,rg,pc,co,ha,sa,tr,cd⟩,pO⟩: ∃x,ts[k]=x:=⟨_,rfl⟩;rw[pO]at hx pn;have h8:rg.length=8:=pn.bz;have tM: ∀(f:Thread->V),List.take 4 (ts.map f)=ts.map f:=fun f=>aZ (by simp;omega);have RQ: ∀(f:Thread->Option V),List.take 4 (ts.map f)=ts.map f:=fun f=>aZ (by simp;omega);by_cases s1:s=1
 case neg=>
  have e2:mw (Prog.mk ax ae ay) ⟨⟨bs,key⟩,⟨cs,ls⟩,ts⟩ k s=(⟨⟨bs,key⟩,⟨cs,ls⟩,ts⟩,⟨k,s,if s=2 then tr else 0,co,pc,0,[],[]⟩):=by
   unfold mw;rw[if_neg s1,hx]
  rw[e2];by_cases s2:s=2
  ·subst s2;simp[rK,tM,hl,k4,EH,pO]
  ·simp[rK,tM,hl,k4,EH,pO,s1,s2]
 subst s1;have SG1:AY (Prog.mk ax ae ay) (1099511627776+n) k (⟨⟨bs,key⟩,⟨cs,ls⟩,ts⟩,1):=by
  rcases SG with h|h
  ·exact absurd h.1 (by decide)
  ·exact h
 obtain⟨c1,c2,c3,c4⟩:=SG1.calls rfl;simp only[hx]at c1 c2 c3 c4;have hL:=HG.lay;have XK:ax.length<=64:=HG.prog.rp;have Fo:=pn.cells.RD;simp only at hL Fo;have LF:ts.getD (k:Int).toNat cw=⟨st,rg,pc,co,ha,sa,tr,cd⟩:=by rw[aaH];simp[List.getD,kl,pO]
 obtain⟨j,hj⟩: ∃j:Nat,pc-1=j:=⟨(pc-1).toNat,by omega⟩;have tH:j<ax.length:=by omega
 have Rw:(j:Int)<ax.length:=by omega
 have yf:kQ ax pc=ax[j]:=by unfold kQ;rw[hj];simp[List.getD,tH]
 have hwp:IntKind.i64.wrap (pc-1)=j:=by rw[hj];exact wrap_i64 (by omega)
 have hI:=HG.prog.AW (p:=(Prog.mk ax ae ay)) tH;simp only at hI;rw[yf]at c4;have Wz:0<=(ax[j]).ed/\(ax[j]).ed<=15:=⟨hI.ed.1,hI.sys c4⟩;have O5:=Em ax ae ay bs key cs ls ts k hl ⟨by omega,EH⟩ hL (by omega) (by rw[LF];exact h8) (by rw[LF];exact Fo) (by rw[LF];exact⟨c2,c3⟩) (by rw[LF];simp only;rw[yf];exact c4) (by rw[LF];simp only;rw[yf];exact Wz) (by rw[LF];have:=pn.pc;simp only at this⊢;omega);rw[LF]at O5;simp only[yf]at O5;obtain⟨c,s7⟩: ∃c,(ax[j]).ed=c:=⟨_,rfl⟩;rw[s7]at O5 Wz;have hco:pV (Prog.mk ax ae ay) ⟨st,rg,pc,co,ha,sa,tr,cd⟩=c:=by unfold pV;simp only;rw[yf,s7]
 obtain⟨w,hw⟩: ∃w,vx bs ae ax.length c rg=w:=⟨_,rfl⟩;rw[hw]at O5;have hwy:GP (Prog.mk ax ae ay) ⟨⟨bs,key⟩,⟨cs,ls⟩,ts⟩ ⟨st,rg,pc,co,ha,sa,tr,cd⟩=w:=by unfold GP;rw[hco];exact hw
 by_cases w0:w=0
 case neg=>
  have e2:mw (Prog.mk ax ae ay) ⟨⟨bs,key⟩,⟨cs,ls⟩,ts⟩ k 1=(⟨⟨bs,key⟩,⟨cs,ls⟩,ts.set k (iV ⟨st,rg,pc,co,ha,sa,tr,cd⟩ w)⟩,⟨k,2,w,co,pc,0,[],[]⟩):=by
   unfold mw;rw[if_pos rfl,hx,hwy,if_neg w0];rfl
  rw[e2];obtain⟨Cl,Ei⟩: ∃Cl,ts.set k (iV ⟨st,rg,pc,co,ha,sa,tr,cd⟩ w)=Cl:=⟨_,rfl⟩;have zR:Cl.length=4:=by rw[<-Ei];simp[hl]
  have K9: ∀(f:Thread->V),List.take 4 (Cl.map f)=Cl.map f:=fun f=>aZ (by simp;omega);have aky: ∀(f:Thread->Option V),List.take 4 (Cl.map f)=Cl.map f:=fun f=>aZ (by simp;omega);have lb:(ts.map Thread.e).set k (V.agg [.int .i64 4,rg,.int .i64 pc,.int .i64 co,.int .i64 ha,.int .i64 sa,.int .i64 w,.int .u16 0])=Cl.map Thread.e:=by rw[<-Ei,abL];rfl
  have akz:(Thread.e ⟨st,rg,pc,co,ha,sa,tr,cd⟩).put 0 (V.agg [.int .i64 4,rg,.int .i64 pc,.int .i64 co,.int .i64 ha,.int .i64 sa,.int .i64 w,.int .u16 0])=V.agg [.int .i64 4,rg,.int .i64 pc,.int .i64 co,.int .i64 ha,.int .i64 sa,.int .i64 w,.int .u16 0]:=rfl;have k2l:k<Cl.length:=by omega
  have a3f:Cl[k]=⟨4,rg,pc,co,ha,sa,w,0⟩:=by simp only[<-Ei];rw[abY];rfl
  rw[Ei];simp[rK,tM,K9,hl,zR,k4,EH,pO,h8,O5,w0,lb,akz,a3f]
 subst w0;obtain⟨hf,YW⟩:=yV hw;have k3:=pf Wz;have e2:mw (Prog.mk ax ae ay) ⟨⟨bs,key⟩,⟨cs,ls⟩,ts⟩ k 1=(⟨⟨bs,key⟩,⟨cs,ls⟩,ts⟩,⟨k,1,0,co,pc,c,gP bs key ae rg (de c).length,if mC c=1 then mu bs key ae ⟨cs,ls⟩ (rg.getD 1 ⟨0,0⟩).val.toNat (rg.getD 2 ⟨0,0⟩).val.toNat else []⟩):=by
  unfold mw;rw[if_pos rfl,hx,hwy,if_pos rfl];unfold K8;simp only[hco]
 rw[e2];have D1:=pn.pc;simp only at D1;have XZ:DF ax pc=c:=by rw[NG ⟨c2,c3⟩ (by rw[yf];exact c4),yf,s7]
 have pW:=Gd ax ae ay st rg pc co ha sa tr cd (by omega) D1;rw[XZ]at pW;obtain⟨va,ha,ka,eak,vA,vD,rfl,HA,HD⟩:=amh ax ae ay bs key cs ls ts st rg pc co ha sa tr cd c 70 hL HG.mem h8 pn.cells Wz (fun hb=>by
  have H8:=YW (by omega);obtain⟨_,w2,w3,w4⟩:=JP hL H8.1;exact⟨w3,w2,H8.2,w4⟩)
 obtain⟨A,hA⟩: ∃A,gP bs key ae rg (de c).length=A:=⟨_,rfl⟩;obtain⟨D,hD⟩: ∃D,(if mC c=1 then mu bs key ae ⟨cs,ls⟩ (rg.getD 1 ⟨0,0⟩).val.toNat (rg.getD 2 ⟨0,0⟩).val.toNat else [])=D:=⟨_,rfl⟩;rw[hA]at HA⊢;rw[hD]at HD⊢;have u0:(V.dM [V.sl true [],V.sl true []]).pu=true:=rfl;have u1: ∀a b,(V.dM [V.sl true [],V.cu a 0 b]).pu=true:=fun _ _=>rfl;have u2: ∀a b,(V.dM [V.cu a 0 b,V.sl true []]).pu=true:=fun _ _=>rfl;have u3: ∀a b c d,(V.dM [V.cu a 0 b,V.cu c 0 d]).pu=true:=fun _ _ _ _=>rfl;rcases HA with⟨rfl,rfl⟩|⟨a0,ia,a1,a2,rfl,a4⟩
 ·rcases HD with⟨rfl,rfl⟩|⟨d0,id,d1,d2,rfl,d4⟩
  ·simp[rK,tM,hl,k4,EH,pO,O5,pW,eak,u0]
  ·have dl: ¬id<70:=by omega
   have dj: ∀j,j<70->(id=j)=False:=fun j _=>by simp;omega
   simp[rK,tM,hl,k4,EH,pO,O5,pW,eak,u1,Bf,d4,dl,dj]
 ·have al: ¬ia<70:=by omega
  have aj: ∀j,j<70->(ia=j)=False:=fun j _=>by simp;omega
  rcases HD with⟨rfl,rfl⟩|⟨d0,id,d1,d2,rfl,d4⟩
  ·simp[rK,tM,hl,k4,EH,pO,O5,pW,eak,u2,Bf,a4,al,aj]
  ·have dl: ¬id<70:=by omega
   have dj: ∀j,j<70->(id=j)=False:=fun j _=>by simp;omega
   simp[rK,tM,hl,k4,EH,pO,O5,pW,eak,u3,Bf,a4,al,aj,d4,dl,dj]
end Go.Proofs.YtdngefmliibcgaaGreat
