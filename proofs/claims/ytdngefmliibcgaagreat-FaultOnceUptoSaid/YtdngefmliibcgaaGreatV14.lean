/- part -/
import Derived.Test.YtdngefmliibcgaaGreatV11
import Derived.Test.YtdngefmliibcgaaGreatV13
set_option linter.all false
set_option maxRecDepth 20000
set_option maxHeartbeats 20000000
namespace Go.Proofs.YtdngefmliibcgaaGreat
open Go Go.Abs Go.Abs.kI Qf
variable  {l x:List Canon}{c key d s:Int}{aD an:List Int}{bp cells:List Cell}{mem:aF}{p:Prog}{m:aO}{t n k i n' id R' b r:Nat}{α:Type}{v:V}{h h':bh}{rs:List (List Canon)}{ids:Nat->Nat}
def ed.R{l:List Cell}(h:ed l):yR l:=fun i hi=>by
 obtain⟨h1,h2⟩:=h.at hi;exact⟨h1.1,h2⟩
def cT.R{p:Prog}{c:Int}{m:aO}(h:cT p c m):As m:=by
 refine⟨h.key,h.mem.cells.R,fun i hi=> ?_,fun i hi=>(h.pe i hi).cells.R,fun i hi=>(h.pe i hi).code⟩;have g:=h.mem.line i;have e:dg m.memory i=m.memory.lines[i]:=by unfold dg;simp[List.getD,hi]
 rw[e]at g;exact g.R
def zh{p:Prog}{t:Nat}{upto:Int}: ∀(k:Nat) (m:aO),(j9 p t upto k m).1.layout=m.layout
 |0,m=>rfl
 |k+1,m=>by
  unfold j9;split
  ·split
   ·rfl
   ·rw[zh k];rfl
  ·rfl
def IN(p:Prog)(m:aO)(t:Nat)(n:Int):(dQ p m t n).1.layout=m.layout:=by
 unfold dQ;split
 ·exact zh _ _
 ·rfl
structure Sv (q:Request):Prop where
 args:q.args.length<=3
 data:q.data.length<=16
 one:(q.call=8\/q.call=9\/q.call=11)->1<=q.args.length
 av:hY q.args
 dv:hY q.data
def Sw(h:c=8\/c=9\/c=11):(dh c).length=1:=by
 rcases h with rfl|rfl|rfl<;>rfl
def aex(h:ed bp)(i:Nat):hY (gP aD key an bp i):=fun c hc=>by
 unfold gP at hc;obtain⟨x,hx,rfl⟩:=List.mem_map.1 hc;exact Lo (h x (aaS hx))
def Ud(h:qi mem)(a i:Nat):hY (mq aD key an mem a i):=fun c hc=>by
 unfold mq at hc;obtain⟨x,hx,rfl⟩:=List.mem_map.1 hc;exact Lo (ed.look h _)
def al3{x:Thread}(HM:cT p d m)(hx:ep d x)(t:Int)(hc:0<=pQ p x/\pQ p x<=15)(hw:G6 p m x=0):Sv (Lv p m x t):=by
 have h3:=pb hc;have hl:=hx.bp;have e:(gP m.layout.aD m.layout.key p.an x.bp (dh (pQ p x)).length).length=(dh (pQ p x)).length:=uo (by omega);unfold G6 at hw;obtain⟨_,h2⟩:=zf hw;refine⟨by simp only[Lv];omega,?_,fun h=> ?_,aex hx.cells _,?_⟩
 ·simp only[Lv];split
  ·rename_i hb;rw[tM];have:=(h2 (by omega)).2;omega
  ·simp
 ·simp only[Lv]at h⊢;have:=Sw h;omega
 ·simp only[Lv];split
  ·exact Ud HM.mem _ _
  ·exact hY.nil
def aey(ht:t<4)(H:A5 p d t (m,s)):cT p d (mr p m t s).1/\(mr p m t s).1.layout=m.layout/\(mr p m t s).2.dd=t/\Sv (mr p m t s).2/\(mr p m t s).2.stop≠3:=by
 have HM:=H.Oi;simp only at HM;have hx:=HM.bV ht;have a2a: ∀a b c e f,Sv ⟨a,b,c,e,f,0,[],[]⟩:=fun a b c e f=>⟨by simp,by simp,fun h=>by simp only at h;omega,hY.nil,hY.nil⟩;unfold mr;by_cases s1:s=1
 ·subst s1;rw[if_pos rfl];obtain⟨c1,c2,c3,c4⟩:=H.calls rfl;simp only at c1 c2 c3 c4;have W3:0<=pQ p (bV m t)/\pQ p (bV m t)<=15:=by
   obtain⟨j,hj⟩: ∃j:Nat,(bV m t).pc-1=j:=⟨((bV m t).pc-1).toNat,by omega⟩;have tI:j<p.code.length:=by omega
   have yo:kU p.code (bV m t).pc=p.code[j]:=by unfold kU;rw[hj];simp[List.getD,tI]
   have hI:=HM.prog.A3 (p:=p) tI;unfold pQ;rw[yo]at c4⊢;exact⟨hI.eu.1,hI.sys c4⟩
  by_cases w0:G6 p m (bV m t)=0
  ·rw[if_pos w0];exact⟨HM,rfl,rfl,al3 HM hx _ W3 w0,by simp[Lv]⟩
  ·rw[if_neg w0];have hw6:G6 p m (bV m t)=6:=by
    rcases W2 m.layout.aD p.an p.code.length (pQ p (bV m t)) (bV m t).bp with h|h
    ·exact absurd h w0
    ·exact h
   refine⟨?_,rfl,rfl,a2a _ _ _ _ _,by simp⟩;obtain⟨g1,g2,g3,g4,g5,g6,g7⟩:=HM;refine⟨g1,g2,g3,g4,by simp[iZ,g5],fun i hi=> ?_,g7⟩;simp only[iZ,aaN]at hi;simp only[iZ,abA];split
   ·rw[hw6];obtain⟨q1,q2,q3,q4,q5,q6,q7,q8,q9⟩:=hx;exact⟨by simp[iV],q2,q3,q4,q5,q6,q7,by simp[iV],by simp[iV]⟩
   ·exact g6 i hi
 ·rw[if_neg s1];refine⟨HM,rfl,rfl,a2a _ _ _ _ _,?_⟩;have:=H.stop;simp only at this⊢;omega
def B8{n:Int}(HG:cT p d m)(hd:d+64<=1099511627776)(ht:t<4)(hn:1<=n/\n<=64)(hs:(bV m t).state=1):
  ∃m' q,gN p m t n=(m',q,0)/\cT p (d+64) m'/\m'.layout=m.layout/\q.dd=t/\Sv q/\q.stop≠3:=by
 have hv:jU p m=true:=(HG.mono (by omega)).ok;have hS:=C9 HG ht hn.1 hs;have hL:=IN p m t n;obtain⟨⟨m1,s⟩,hms⟩: ∃r,dQ p m t n=r:=⟨_,rfl⟩;rw[hms]at hS hL;obtain⟨k1,k2,k3,k4,k5⟩:=aey ht hS;have e:gN p m t n=((mr p m1 t s).1,(mr p m1 t s).2,0):=by
  unfold gN;rw[if_pos ⟨hv,⟨by omega,by omega⟩,hn.1,hn.2⟩,aaH,hms]
 exact⟨_,_,e,k1.mono (by omega),by rw[k2];exact hL,k3,k4,k5⟩
def al4(HG:cT p d m)(ht:t<4)(hc:Gt (bV m t)=true):cT p d (zg m t)/\(zg m t).layout=m.layout/\(bV (zg m t) t).state=1:=by
 have hx:=HG.bV ht;have hl:=HG.len;unfold Gt at hc;simp only[aaF,decide_eq_true_eq]at hc;obtain⟨c1,c2,c3⟩:=hc;refine⟨?_,rfl,?_⟩
 ·obtain⟨g1,g2,g3,g4,g5,g6,g7⟩:=HG;refine⟨g1,g2,g3,g4,by simp[zg,g5],fun i hi=> ?_,g7⟩;simp only[zg,aaN]at hi;simp only[zg,abA];split
  ·obtain⟨q1,q2,q3,q4,q5,q6,q7,q8,q9⟩:=hx;exact⟨q1,q2,q3,by simp only;omega,q5,q6,by simp only;omega,q8,q9⟩
  ·exact g6 i hi
 ·have nd:t<m.threads.length:=by omega
  simp[bV,zg,List.getD,nd];simpa[bV,List.getD,nd] using c1
def Sx{l:List Thread}(h:i<(la l k).length): ∃t:Nat,t<k/\(la l k)[i]=(t:Int)/\(l.getD t cn).state=1:=by
 have hm:=aaL h;unfold la at hm;obtain⟨t,h1,h2⟩:=List.mem_map.1 hm;obtain⟨h3,h4⟩:=List.mem_filter.1 h1;refine⟨t,List.mem_range.1 h3,?_,by simpa using h4⟩;unfold la;exact h2.symm
def Dg{α:Type}(f:α->V)(c k:Nat)(l:List α)(v:V)(h:bh)(n:Nat):Prop:=(l=[]/\v= .sl true [])\/(0<l.length/\ ∃id,k<=id/\id<n/\v= .cx id 0 l.length/\h id=some ⟨c,l.map f,false⟩)
def Dg.mono{f:α->V}{c:Nat}{l:List α}(H:Dg f c k l v h n)(hn:n<=n')(hh: ∀i,k<=i->i<n->h' i=h i):Dg f c k l v h' n':=by
 rcases H with H|⟨h0,id,k1,k2,e,g⟩
 ·exact .inl H
 ·exact .inr ⟨h0,id,k1,by omega,e,by rw[hh _ k1 k2,g]⟩
def jO(ids:Nat->Nat)(l:List (List Canon)):List V:=l.mapIdx fun i x=> .cx (ids i) 0 x.length
def nr(ids:Nat->Nat)(l:List (List Canon)):(jO ids l).length=l.length:=by simp[jO]
def Sy(ids:Nat->Nat)(l:List (List Canon))(x:List Canon)(n:Nat):jO ids l++ [.cx n 0 x.length]=jO (aR ids l.length n) (l++ [x]):=by
 apply abF;intro i;simp only[jO,List.mapIdx_append,aeR,List.mapIdx_nil];rcases aaR i l.length with h|h
 ·rw[aaW (by simpa using h),aaW (by simpa using h)];simp[aR,aeJ h]
 ·rw[aaO (by simpa using h),aaO (by simpa using h)];simp[aR]
def ov(k n:Nat)(rs:List (List Canon))(v:V)(h:bh):Prop:=(rs=[]/\v= .sl true [])\/(0<rs.length/\ ∃R ids,v= .cx R 0 rs.length/\h R=some ⟨1,jO ids rs,true⟩/\(k<=R/\R<n)/\
 (∀i (g:i<rs.length),h (ids i)=some ⟨4,(rs[i]).map Canon.e,false⟩/\k<=ids i/\ids i<n/\ids i≠R)/\ ∀i j,i<rs.length->j<rs.length->i≠j->ids i≠ids j)
def ov.mono(H:ov k n rs v h)(hn:n<=n')(hh: ∀i,k<=i->i<n->h' i=h i):ov k n' rs v h':=by
 rcases H with H|⟨h0,R,ids,e,g,k1,hi,hs⟩
 ·exact .inl H
 ·exact .inr ⟨h0,R,ids,e,by rw[hh _ k1.1 k1.2,g],by omega,fun i q=>⟨by rw[hh _ (hi i q).2.1 (hi i q).2.2.1,(hi i q).1],(hi i q).2.1,by have:=(hi i q).2.2.1;omega,(hi i q).2.2.2⟩,hs⟩
def ov.Ue{m:Nat}{R:Nat}(hR:h R=some ⟨1,[.cx id 0 x.length],true⟩)(hi:h id=some ⟨4,x.map Canon.e,false⟩)(b:k<=id/\id<m/\k<=R/\R<m/\id≠R):ov k m [x] (.cx R 0 1) h:=by
 refine .inr ⟨by simp,R,fun _=>id,rfl,by rw[hR];rfl,by omega,fun i g=> ?_,fun i j a c d=>by simp at a c;omega⟩;have:i=0:=by simp at g;omega
 subst this;exact⟨hi,b.1,b.2.1,b.2.2.2.2⟩
def ov.snoc {m:Nat}    {R:Nat}  (hi: ∀i (g:i<rs.length),h (ids i)=some ⟨4,(rs[i]).map Canon.e,false⟩/\k<=ids i/\ids i<n/\ids i≠R) (hs: ∀i j,i<rs.length->j<rs.length->i≠j->ids i≠ids j)
  (hR:h' R'=some ⟨1,jO ids rs++ [.cx id 0 x.length],true⟩) (fa:h' id=some ⟨4,x.map Canon.e,false⟩) (hh: ∀i,k<=i->i<n->i≠R->h' i=h i) (b:k<=n/\n<=id/\id<R'/\R'<m):ov k m (rs++ [x]) (.cx R' 0 (rs.length+1)) h':=by
 refine .inr ⟨by simp,R',aR ids rs.length id,by simp,by rw[hR,Sy],by omega,fun i g=> ?_,fun i j a c d=> ?_⟩
 ·rcases aaR i rs.length with q|q
  ·obtain⟨a1,a2,a3,a4⟩:=hi i q;rw[aR,if_neg (by omega),acS q];exact⟨by rw[hh _ a2 a3 a4,a1],a2,by omega,by omega⟩
  ·have:i=rs.length:=by simp at g;omega
   subst this;rw[aR,if_pos rfl];simp only[adG (aaI _),acV,acB];exact⟨fa,by omega,by omega,by omega⟩
 ·simp only[aaY,abP,acP]at a c;unfold aR;by_cases e1:i=rs.length
  ·have q:=(hi j (by omega)).2.2.1;rw[if_pos e1,if_neg (by omega)];omega
  ·have q:=(hi i (by omega)).2.2.1;rw[if_neg e1];by_cases e2:j=rs.length
   ·rw[if_pos e2];omega
   ·rw[if_neg e2];exact hs i j (by omega) (by omega) d
def vb(aD:List Int)(key:Int)(an:List Int)(mem:aF)(r:Nat):List Canon:=mq aD key an mem (nth aD r).toNat (nth an r).toNat
def ld(aD:List Int)(key:Int)(an:List Int)(mem:aF)(k:Nat):List (List Canon):=(List.range k).map (vb aD key an mem)
def Ly(aD:List Int)(key:Int)(an:List Int)(mem:aF)(k:Nat):ld aD key an mem (k+1)=ld aD key an mem k++ [vb aD key an mem k]:=by
 unfold ld;rw[acK,abL];rfl
def vF(aD:List Int)(key:Int)(an:List Int)(mem:aF)(k:Nat):(ld aD key an mem k).length=k:=by simp[ld]
def RgI(aD:List Int)(key:Int)(an:List Int)(mem:aF)(k r:Nat)(S:St):Prop:=
 (S.f 2= .sl false (an.map (V.int .i64))/\S.f 3= .ptr k 0 0/\S.f 4= .ptr (k+1) 0 0/\S.f 12= .sl false (an.map (V.int .i64))/\S.f 13= .int .i64 (an.length:Int)/\S.f 14= .int .i64 (r:Int))/\
 (S.h k=some ⟨2,[KKA mem],true⟩/\S.h (k+1)=some ⟨2,[KKc aD key],true⟩)/\
 ov (k+2) S.n (ld aD key an mem r) (S.f 7) S.h/\k+2<=S.n
def RgJ(aD:List Int)(key:Int)(an:List Int)(mem:aF)(k r n0 o:Nat)(S:St):Prop:=
 (S.f 2= .sl false (an.map (V.int .i64))/\S.f 3= .ptr k 0 0/\S.f 4= .ptr (k+1) 0 0/\S.f 8= .int .i64 (r:Int)/\S.f 12= .sl false (an.map (V.int .i64))/\S.f 13= .int .i64 (an.length:Int)/\S.f 14= .int .i64 (r:Int)/\S.f 19= .int .i64 (nth an r)/\S.f 20= .int .i64 (o:Int))/\
 (S.h k=some ⟨2,[KKA mem],true⟩/\S.h (k+1)=some ⟨2,[KKc aD key],true⟩)/\
 ov (k+2) n0 (ld aD key an mem r) (S.f 7) S.h/\Dg Canon.e 4 n0 (mq aD key an mem (nth aD r).toNat o) (S.f 10) S.h S.n/\k+2<=n0/\n0<=S.n
@[simp]def W7(dB:List Cell)(bW:List cw)(aw:List Int)(bK:Int)(an:List Int)(k:Nat)(hL:nW aw an)(hM:qi ⟨dB,bW⟩): ∃v h' k',cL X 89 [KKp dB bW,KKc aw bK,.sl false (an.map (V.int .i64))] pK k=some (v,h',k')/\ov (k+2) k' (ld aw bK an ⟨dB,bW⟩ an.length) v h'/\k+2<=k':=by
 have hb:aw.length=an.length:=hL.len;have Yn:an.length<=4:=hL.sz.le;have hMP:ud ⟨dB,bW⟩:=hM.mem;refine aaB ?_;simp[aaE];refine lW (fun r S=>RgI aw bK an ⟨dB,bW⟩ k r S) an.length ?_ 0 (by omega) ?_
 ·rintro r S hr ⟨⟨f2,f3,f4,f12,f13,f14⟩,⟨h0,h1⟩,HR,hk⟩;simp only at h0 h1;by_cases gZ:r<an.length
  case neg=>
   have er:r=an.length:=by omega
   subst er;simp[f13,f14];exact⟨HR.mono (by omega) fun _ _ _=>rfl,by omega⟩
  have hw:IntKind.i64.wrap ((r:Int)+1)=r+1:=wrap_i64 (by omega);have pV:r<aw.length:=by omega
  obtain⟨z1,z2⟩:=hL.sz.elem r gZ;obtain⟨b1,b2⟩:=hL.base r pV gZ;obtain⟨b,TZ⟩: ∃b:Nat,aw[r]=b:=⟨(aw[r]).toNat,by omega⟩;obtain⟨z,hze⟩: ∃z:Nat,an[r]=z:=⟨(an[r]).toNat,by omega⟩;have X6:nth aw r=b:=by rw[dE pV,TZ]
  have hzn:nth an r=z:=by rw[dE gZ,hze]
  simp[f12,f13,f14,gZ,hze];refine lW (fun o S'=>RgJ aw bK an ⟨dB,bW⟩ k r (S.n+9) o S') z ?_ 0 (by omega) ?_
  ·rintro o S' ho ⟨⟨j2,j3,j4,j8,j12,j13,j14,j19,j20⟩,⟨g0,g1⟩,Sz,HO,hk0,EG⟩;simp only at g0 g1;rw[hzn]at j19;have hzl:(((z:Nat):Int)).toNat=z:=by omega
   have WD:(((b:Nat):Int)).toNat=b:=by omega
   rw[X6,WD]at HO;by_cases aez:o<z
   case neg=>
    have bL: ¬(o:Int)<z:=by omega
    have eo:o=z:=by omega
    subst eo;have Bo:=tM aw bK an ⟨dB,bW⟩ b o;have qH:=vF aw bK an ⟨dB,bW⟩ r;have lu:=Ly aw bK an ⟨dB,bW⟩ r;unfold vb at lu;rw[X6,hzn,WD,hzl]at lu;obtain⟨bs,XZ⟩: ∃q,mq aw bK an ⟨dB,bW⟩ b o=q:=⟨_,rfl⟩;obtain⟨rs,B9⟩: ∃q,ld aw bK an ⟨dB,bW⟩ r=q:=⟨_,rfl⟩;rw[XZ]at HO Bo lu;rw[B9]at Sz qH lu;rcases HO with⟨Lr,j10⟩|⟨Lr,id,i1,i2,j10,fa⟩
    ·rw[Lr]at Bo;simp at Bo;omega
    have ni: ∀j,¬id=S'.n+j:=fun j=>by omega
    have n1: ∀j,¬k=S'.n+j:=fun j=>by omega
    rcases Sz with⟨e0,j7⟩|⟨e0,R,ids,j7,r1,r2,r3,r4⟩
    ·simp[aaE,j7,j10,j14,j19,j20,bL,gZ,hw];refine⟨⟨by simp[aR,j2],by simp[aR,j3],by simp[aR,j4],by simp[aR,j12],by simp[aR,j13],by simp[aR]⟩,⟨?_,?_⟩,?_,by simp only;omega⟩
     ·simp[aR,n1,g0]
     ·simp[aR,n1,g1]
     ·rw[lu,e0];refine ov.Ue (id:=id) (R:=S'.n+4) ?_ ?_ (by simp only;omega)
      ·simp[aR]
      ·simp[aR,ni,fa]
    ·have nR: ∀j,¬R=S'.n+j:=fun j=>by omega
     have rl:=nr ids rs;have rt:(jO ids rs).take rs.length=jO ids rs:=aZ (by omega);have rb:rs.length<=1000:=by omega
     simp[aaE,j7,j10,j14,j19,j20,bL,gZ,hw,r1,nR,rl,rt];refine⟨⟨by omega,by omega⟩,fun _ _=>⟨⟨by simp[aR,j2],by simp[aR,j3],by simp[aR,j4],by simp[aR,j12],by simp[aR,j13],by simp[aR]⟩,⟨?_,?_⟩,?_,by simp only;omega⟩⟩
     ·have n3: ¬k=R:=by omega
      simp[aR,n1,n3,g0]
     ·have n3: ¬k+1=R:=by omega
      simp[aR,n1,n3,g1]
     ·rw[lu];refine ov.snoc (n:=S.n+9) (id:=id) (R:=R) (R':=S'.n+4) (h:=S'.h) (ids:=ids) r3 r4 ?_ ?_ ?_ (by simp only;omega)
      ·simp[aR]
      ·have n3: ¬id=R:=by omega
       simp[aR,ni,n3,fa]
      ·intro i hi1 LZ Bp;have n4: ∀j,¬i=S'.n+j:=fun j=>by omega
       simp[aR,n4,Bp]
   have bL:(o:Int)<z:=by omega
   have hwo:IntKind.i64.wrap ((o:Int)+1)=o+1:=wrap_i64 (by omega);obtain⟨q,hq⟩: ∃q:Nat,b+o=q:=⟨_,rfl⟩;have hq5:q<512:=by omega
   have WC:(q:Int)<512:=by omega
   have hqw:IntKind.i64.wrap ((b:Int)+o)=q:=by rw[wrap_i64 (by omega)];omega
   have a2c:(r:Int)<aw.length:=by omega
   have lu:=G5 aw bK an ⟨dB,bW⟩ b o;rw[hq]at lu;obtain⟨⟨lt,lv⟩,hlk⟩: ∃c,look ⟨dB,bW⟩ q=c:=⟨_,rfl⟩;have hlp:=ed.look hM q;rw[hlk]at lu hlp;have hlv:=hlp.2;have Bo:=tM aw bK an ⟨dB,bW⟩ b o;obtain⟨bs,XZ⟩: ∃q,mq aw bK an ⟨dB,bW⟩ b o=q:=⟨_,rfl⟩;rw[XZ]at HO Bo lu;have n1: ∀j,¬k=S'.n+j:=fun j=>by omega
   have n2: ∀j,¬k+1=S'.n+j:=fun j=>by omega
   have DG:=BL dB bW q hMP (by omega);rw[aaH,hlk]at DG;rcases HO with⟨Lr,j10⟩|⟨Lr,id,i1,i2,j10,fa⟩
   ·simp[aaE,j2,j3,j4,j8,j10,j19,j20,g0,g1,bL,aez,hwo,hL,hqw,pV,a2c,TZ,DG,hlv];refine⟨⟨by simp[aR,j2],by simp[aR,j3],by simp[aR,j4],by simp[aR,j8],by simp[aR,j12],by simp[aR,j13],by simp[aR,j14],by simp[aR,j19,hzn],by simp[aR]⟩,⟨by simp[aR,n1,g0],by simp[aR,n1,g1]⟩,?_,?_,by omega,by simp only;omega⟩
    ·simp only[aR,Nat.reduceEqDiff,if_false];exact Sz.mono (by omega) fun i a b=>by
      have n4: ∀j,¬i=S'.n+j:=fun j=>by omega
      simp[n4]
    ·rw[X6,WD,lu,Lr];refine .inr ⟨by simp,S'.n+17,by omega,by simp only;omega,by simp[aR],by simp[aR,Canon.bS]⟩
   ·have ni: ∀j,¬id=S'.n+j:=fun j=>by omega
    simp[aaE,j2,j3,j4,j8,j10,j19,j20,g0,g1,bL,aez,hwo,hL,hqw,pV,a2c,TZ,DG,hlv,fa];refine⟨⟨by omega,by omega⟩,fun _ _=>⟨⟨by simp[aR,j2],by simp[aR,j3],by simp[aR,j4],by simp[aR,j8],by simp[aR,j12],by simp[aR,j13],by simp[aR,j14],by simp[aR,j19,hzn],by simp[aR]⟩,⟨?_,?_⟩,?_,?_,by omega,by simp only;omega⟩⟩
    ·have n3: ¬k=id:=by omega
     simp[aR,n1,n3,g0]
    ·have n3: ¬k+1=id:=by omega
     simp[aR,n1,n3,g1]
    ·simp only[aR,Nat.reduceEqDiff,if_false];exact Sz.mono (by omega) fun i a b=>by
      have n4: ∀j,¬i=S'.n+j:=fun j=>by omega
      have n5: ¬i=id:=by omega
      simp[n4,n5]
    ·rw[X6,WD,lu];refine .inr ⟨by simp,S'.n+17,by omega,by simp only;omega,by simp[aR],by simp[aR,Canon.bS]⟩
  ·simp[aaE];refine⟨⟨by simp[aR,f2],by simp[aR,f3],by simp[aR,f4],by simp[aR],by simp[aR,f12],by simp[aR,f13],by simp[aR,f14],by simp[aR,hzn],by simp[aR]⟩,⟨by simp only;exact h0,by simp only;exact h1⟩,?_,.inl ⟨rfl,by simp[aR]⟩,by omega,by simp only;omega⟩;exact HR.mono (by omega) fun _ _ _=>rfl
 ·simp;refine⟨⟨rfl,by simp[aR],by simp[aR],by simp[aR],by simp[aR],by simp[aR]⟩,⟨by simp[aR],by simp[aR]⟩,.inl ⟨rfl,by simp[aR]⟩,by simp only;omega⟩
def Ca(aD:List Int)(key:Int)(an:List Int)(x:Thread):View:=⟨x.state,x.pc,x.count,x.cp,x.saved,x.dr,x.code,x.bp.map (canon aD key an)⟩
def px(aD:List Int)(key:Int)(an:List Int)(l:List Thread):List View:=l.map (Ca aD key an)
def SA{l:List Thread}(h:i<l.length):px aD key an (l.take (i+1))=px aD key an (l.take i)++ [Ca aD key an l[i]]:=by
 unfold px;rw[fD h,abL];rfl
def D3(aD:List Int)(key:Int)(an:List Int)(l:List Thread):(px aD key an l).length=l.length:=by simp[px]
def sW(p:Prog)(m:aO):State:=⟨ld m.layout.aD m.layout.key p.an m.memory p.an.length,px m.layout.aD m.layout.key p.an m.threads⟩
def rB(ids:Nat->Nat)(i:Nat)(v:View):V:= .agg [.int .i64 v.state,.int .i64 v.pc,.int .i64 v.count,.int .i64 v.cp,.int .i64 v.saved,.int .i64 v.dr,.int .u16 v.code,.cx (ids i) 0 v.bp.length]
def jS(ids:Nat->Nat)(l:List View):List V:=l.mapIdx (rB ids)
def uq(ids:Nat->Nat)(l:List View):(jS ids l).length=l.length:=by simp[jS]
def OB(ids:Nat->Nat)(l:List View)(x:View)(n:Nat):jS ids l++ [rB (fun _=>n) 0 x]=jS (aR ids l.length n) (l++ [x]):=by
 apply abF;intro i;simp only[jS,List.mapIdx_append,aeR,List.mapIdx_nil];rcases aaR i l.length with h|h
 ·rw[aaW (by simpa using h),aaW (by simpa using h)];simp[rB,aR,aeJ h,aaJ h]
 ·rw[aaO (by simpa using h),aaO (by simpa using h)];simp[rB,aR]
def qq(k n:Nat)(vs:List View)(v:V)(h:bh):Prop:=(vs=[]/\v= .sl true [])\/(0<vs.length/\ ∃R ids,v= .cx R 0 vs.length/\h R=some ⟨8,jS ids vs,true⟩/\(k<=R/\R<n)/\
 (∀i (g:i<vs.length),h (ids i)=some ⟨4,(vs[i]).bp.map Canon.e,false⟩/\k<=ids i/\ids i<n/\ids i≠R)/\ ∀i j,i<vs.length->j<vs.length->i≠j->ids i≠ids j)
def qq.mono{vs:List View}(H:qq k n vs v h)(hn:n<=n')(hh: ∀i,k<=i->i<n->h' i=h i):qq k n' vs v h':=by
 rcases H with H|⟨h0,R,ids,e,g,k1,hi,hs⟩
 ·exact .inl H
 ·exact .inr ⟨h0,R,ids,e,by rw[hh _ k1.1 k1.2,g],by omega,fun i q=>⟨by rw[hh _ (hi i q).2.1 (hi i q).2.2.1,(hi i q).1],(hi i q).2.1,by have:=(hi i q).2.2.1;omega,(hi i q).2.2.2⟩,hs⟩
def qq.Ue{m:Nat}{x:View}{R:Nat}(hR:h R=some ⟨8,[rB (fun _=>id) 0 x],true⟩)(hi:h id=some ⟨4,x.bp.map Canon.e,false⟩)(b:k<=id/\id<m/\k<=R/\R<m/\id≠R):qq k m [x] (.cx R 0 1) h:=by
 refine .inr ⟨by simp,R,fun _=>id,rfl,by rw[hR];rfl,by omega,fun i g=> ?_,fun i j a c d=>by simp at a c;omega⟩;have:i=0:=by simp at g;omega
 subst this;exact⟨hi,b.1,b.2.1,b.2.2.2.2⟩
def qq.snoc {m:Nat} {rs:List View}  {x:View} {R:Nat}  (hi: ∀i (g:i<rs.length),h (ids i)=some ⟨4,(rs[i]).bp.map Canon.e,false⟩/\k<=ids i/\ids i<n/\ids i≠R) (hs: ∀i j,i<rs.length->j<rs.length->i≠j->ids i≠ids j)
  (hR:h' R'=some ⟨8,jS ids rs++ [rB (fun _=>id) 0 x],true⟩) (fa:h' id=some ⟨4,x.bp.map Canon.e,false⟩) (hh: ∀i,k<=i->i<n->i≠R->h' i=h i) (b:k<=n/\n<=id/\id<R'/\R'<m):qq k m (rs++ [x]) (.cx R' 0 (rs.length+1)) h':=by
 refine .inr ⟨by simp,R',aR ids rs.length id,by simp,by rw[hR,OB],by omega,fun i g=> ?_,fun i j a c d=> ?_⟩
 ·rcases aaR i rs.length with q|q
  ·obtain⟨a1,a2,a3,a4⟩:=hi i q;rw[aR,if_neg (by omega),acS q];exact⟨by rw[hh _ a2 a3 a4,a1],a2,by omega,by omega⟩
  ·have:i=rs.length:=by simp at g;omega
   subst this;rw[aR,if_pos rfl];simp only[adG (aaI _),acV,acB];exact⟨fa,by omega,by omega,by omega⟩
 ·simp only[aaY,abP,acP]at a c;unfold aR;by_cases e1:i=rs.length
  ·have q:=(hi j (by omega)).2.2.1;rw[if_pos e1,if_neg (by omega)];omega
  ·have q:=(hi i (by omega)).2.2.1;rw[if_neg e1];by_cases e2:j=rs.length
   ·rw[if_pos e2];omega
   ·rw[if_neg e2];exact hs i j (by omega) (by omega) d
def auj(k n:Nat)(s:State)(v:V)(h:bh):Prop:= ∃vR vT n1,v= .agg [vR,vT]/\ov k n1 s.regions vR h/\qq n1 n s.threads vT h/\k<=n1/\n1<=n
def StI(p:Prog)(m:aO)(k k1 k2 c5 n1 i:Nat)(vR:V)(S:St):Prop:=
 ∃vT,(S.f 2= .ptr k 0 0/\S.f 3= .ptr k1 0 0/\S.f 4= .ptr k2 0 0/\S.f 5= .ptr c5 0 0/\S.f 20= .sl false (m.threads.map Thread.e)/\S.f 21= .int .i64 4/\S.f 22= .int .i64 (i:Int))/\
 (S.h k=some ⟨3,[KKi p],true⟩/\S.h k1=some ⟨5,[.agg (mo m)],true⟩/\S.h k2=some ⟨2,[.agg [.sl true [],.sl true []]],true⟩/\S.h c5=some ⟨2,[.agg [vR,vT]],true⟩)/\
 ov (k+15) n1 (ld m.layout.aD m.layout.key p.an m.memory p.an.length) vR S.h/\qq n1 S.n (px m.layout.aD m.layout.key p.an (m.threads.take i)) vT S.h/\k+15<=n1/\n1<=S.n
def StJ(p:Prog)(m:aO)(k k1 k2 c5 c8 n1 n2 i:Nat)(vR vT:V)(x:Thread)(j:Nat)(S:St):Prop:=
 ∃vC,(S.f 2= .ptr k 0 0/\S.f 3= .ptr k1 0 0/\S.f 4= .ptr k2 0 0/\S.f 5= .ptr c5 0 0/\S.f 8= .ptr c8 0 0/\S.f 20= .sl false (m.threads.map Thread.e)/\S.f 21= .int .i64 4/\S.f 22= .int .i64 (i:Int)/\S.f 42= .sl false (x.bp.map Cell.e)/\S.f 43= .int .i64 8/\S.f 44= .int .i64 (j:Int))/\
 (S.h k=some ⟨3,[KKi p],true⟩/\S.h k1=some ⟨5,[.agg (mo m)],true⟩/\S.h k2=some ⟨2,[.agg [.sl true [],.sl true []]],true⟩/\S.h c5=some ⟨2,[.agg [vR,vT]],true⟩/\
  S.h c8=some ⟨8,[.agg [.int .i64 x.state,.int .i64 x.pc,.int .i64 x.count,.int .i64 x.cp,.int .i64 x.saved,.int .i64 x.dr,.int .u16 x.code,vC]],true⟩)/\
 ov (k+15) n1 (ld m.layout.aD m.layout.key p.an m.memory p.an.length) vR S.h/\qq n1 n2 (px m.layout.aD m.layout.key p.an (m.threads.take i)) vT S.h/\k+15<=n1/\n1<=n2/\c8+1<=S.n/\Dg Canon.e 4 (c8+1) (gP m.layout.aD m.layout.key p.an x.bp j) vC S.h S.n
@[simp]def al6(ax:List Instr)(ae:List Int)(ay:List (List Int))(aa:List Int)(aq:Int)(ak:List Cell)(ah:List cw)(au:List Thread)(k:Nat)(d:Int)(HG:cT (Prog.mk ax ae ay) d (aO.mk (Layout.mk aa aq) (aF.mk ak ah) au)): ∃v h' k',cL X 36 [KKQ ax ae ay,KKY aa aq ak ah au] pK k=some (v,h',k')/\auj (k+15) k' (sW (Prog.mk ax ae ay) (aO.mk (Layout.mk aa aq) (aF.mk ak ah) au)) v h':=by
 have hL:nW aa ae:=HG.lay;have hl:au.length=4:=HG.len;obtain⟨vR,hR,kR,eR,HR,hkR⟩:=W7 ak ah aa aq ae (k+13) hL HG.mem;simp only[aaE,Nat.reduceAdd]at eR HR hkR;have hz1:1<=ae.length:=hL.sz.pos;have qH:=vF aa aq ae ⟨ak,ah⟩ ae.length;obtain⟨R,rfl⟩: ∃R,vR= .cx R 0 ae.length:=by
  rcases HR with⟨e,_⟩|⟨_,R,_,e,_⟩
  ·rw[e]at qH;simp at qH;omega
  ·rw[qH]at e;exact⟨R,e⟩
 refine aaB ?_;simp[aaE,eR,hl];obtain⟨k1,EG⟩: ∃q,k+1=q:=⟨_,rfl⟩;obtain⟨k2,yc⟩: ∃q,k+2=q:=⟨_,rfl⟩;obtain⟨c5,hc5⟩: ∃q,k+11=q:=⟨_,rfl⟩;refine lW (fun i S=>StI (Prog.mk ax ae ay) (aO.mk (Layout.mk aa aq) (aF.mk ak ah) au) k k1 k2 c5 kR i (.cx R 0 ae.length) S) 4 ?_ 0 (by omega) ?_
 ·rintro i S hi ⟨vT,⟨f2,f3,f4,f5,f20,f21,f22⟩,⟨h0,h1,h2,h5⟩,HRi,HT,PX,Bn⟩;unfold mo at h1;simp only at h0 h1 f20 HRi HT;by_cases gZ:i<4
  case neg=>
   have bL: ¬(i:Int)<4:=by omega
   have ei:i=4:=by omega
   subst ei;rw[aZ (by omega)]at HT;have nT: ¬c5=k2:=by omega
   have vl:=D3 aa aq ae au;rcases HT with⟨e,_⟩|⟨e0,Q,ids,rfl,r1,r2,r3,r4⟩
   ·rw[e]at vl;simp at vl;omega
   simp[aaE,f4,f5,f21,f22,h2,h5];refine⟨_,_,kR,rfl,HRi.mono (aaI _) fun j a b=>by rw[aR,if_neg (by omega)],.inr ⟨e0,Q,ids,rfl,?_,by omega,fun j g=> ?_,r4⟩,PX,by omega⟩
   ·rw[aR,if_neg (by omega)];exact r1
   ·obtain⟨a1,a2,a3,a4⟩:=r3 j g;exact⟨by rw[aR,if_neg (by omega)];exact a1,a2,by omega,a4⟩
  have bL:(i:Int)<4:=by omega
  have Fg:i<au.length:=by omega
  have hw:IntKind.i64.wrap ((i:Int)+1)=i+1:=wrap_i64 (by omega);have hx:=HG.pe i Fg;obtain⟨x,pH⟩: ∃x,au[i]=x:=⟨_,rfl⟩;simp only[pH]at hx;have h8:=hx.bp;simp[aaE,f20,f21,f22,gZ,bL,pH,Thread.bS,h8,hl];obtain⟨c8,hc8⟩: ∃q,S.n+20=q:=⟨_,rfl⟩;refine lW (fun j S'=>StJ (Prog.mk ax ae ay) (aO.mk (Layout.mk aa aq) (aF.mk ak ah) au) k k1 k2 c5 c8 kR S.n i (.cx R 0 ae.length) vT x j S') 8 ?_ 0 (by omega) ?_
  ·rintro j S' hj ⟨vC,⟨j2,j3,j4,j5,j8,j20,j21,j22,j42,j43,j44⟩,⟨g0,g1,g2,g5,g8⟩,Sz,HT',q1,q2,q3,HO⟩;unfold mo at g1;simp only at g0 g1 j20 Sz HT' HO;by_cases jq:j<8
   case neg=>
    have D4: ¬(j:Int)<8:=by omega
    have ej:j=8:=by omega
    subst ej;have wN:=uo (aD:=aa) (key:=aq) (an:=ae) (bp:=x.bp) (i:=8) (by omega);have hvw:Ca aa aq ae x=⟨x.state,x.pc,x.count,x.cp,x.saved,x.dr,x.code,gP aa aq ae x.bp 8⟩:=by
     unfold Ca gP;rw[aZ (by omega)]
    have lu:=SA (aD:=aa) (key:=aq) (an:=ae) Fg;rw[pH,hvw]at lu;obtain⟨al,has⟩: ∃q,gP aa aq ae x.bp 8=q:=⟨_,rfl⟩;have hvl:=D3 aa aq ae (au.take i);rw[acW (by omega)]at hvl;obtain⟨vs,hvs⟩: ∃q,px aa aq ae (au.take i)=q:=⟨_,rfl⟩;rw[has]at HO wN lu;rw[hvs]at HT' lu hvl;rcases HO with⟨Lr,jC⟩|⟨Lr,id,i1,i2,rfl,fa⟩
    ·rw[Lr]at wN;simp at wN
    have ni: ∀j,¬id=S'.n+j:=fun j=>by omega
    have n1: ∀j,¬k=S'.n+j:=fun j=>by omega
    have m1: ∀j,¬k1=S'.n+j:=fun j=>by omega
    have m2: ∀j,¬k2=S'.n+j:=fun j=>by omega
    have m5: ∀j,¬c5=S'.n+j:=fun j=>by omega
    have nS: ∀j,¬c8=S'.n+j:=fun j=>by omega
    have nk: ¬c8=c5:=by omega
    have nk2: ¬c5=c8:=by omega
    have nk5: ∀j,¬S'.n+j=c5:=fun j=>by omega
    rcases HT' with⟨e0,rfl⟩|⟨e0,Q,ids,rfl,r1,r2,r3,r4⟩
    ·simp[aaE,j5,j8,j22,j43,j44,g5,g8,gZ,hw,m5];refine⟨.cx (S'.n+5) 0 1,⟨by simp[aR,j2],by simp[aR,j3],by simp[aR,j4],by simp[aR,j5],by simp[aR,j20],by simp[aR,j21],by simp[aR]⟩,⟨?_,?_,?_,by simp[aR]⟩,?_,?_,PX,by simp only;omega⟩
     ·have w: ¬k=c5:=by omega
      simp[aR,n1,w,g0]
     ·have w: ¬k1=c5:=by omega
      simp[aR,m1,w,g1,mo]
     ·have w: ¬k2=c5:=by omega
      simp[aR,m2,w,g2]
     ·exact Sz.mono (by omega) fun l a b=>by
       have w1: ∀j,¬l=S'.n+j:=fun j=>by omega
       have w2: ¬l=c5:=by omega
       simp[aR,w1,w2]
     ·rw[lu,e0];have w: ¬id=c5:=by omega
      exact qq.Ue (id:=id) (R:=S'.n+5) (by simp[aR,rB,nk5]) (by simp[aR,ni,w,fa]) (by simp only;omega)
    ·have nQ: ∀j,¬Q=S'.n+j:=fun j=>by omega
     have nQ5: ¬c5=Q:=by omega
     have nQ8: ¬c8=Q:=by omega
     have nQ1: ¬k1=Q:=by omega
     have nQ2: ¬k2=Q:=by omega
     have nQ0: ¬k=Q:=by omega
     have rl:=uq ids vs;have rt:(jS ids vs).take vs.length=jS ids vs:=aZ (by omega);simp[aaE,j5,j8,j22,j43,j44,g5,g8,gZ,hw,m5,nQ5,r1,nQ,rl,rt];refine⟨⟨by omega,by omega⟩,fun _ _=>⟨.cx (S'.n+5) 0 (vs.length+1),⟨by simp[aR,j2],by simp[aR,j3],by simp[aR,j4],by simp[aR,j5],by simp[aR,j20],by simp[aR,j21],by simp[aR]⟩,⟨?_,?_,?_,by simp[aR]⟩,?_,?_,PX,by simp only;omega⟩⟩
     ·have w: ¬k=c5:=by omega
      simp[aR,n1,w,nQ0,g0]
     ·have w: ¬k1=c5:=by omega
      simp[aR,m1,w,nQ1,g1,mo]
     ·have w: ¬k2=c5:=by omega
      simp[aR,m2,w,nQ2,g2]
     ·exact Sz.mono (by omega) fun l a b=>by
       have w1: ∀j,¬l=S'.n+j:=fun j=>by omega
       have w2: ¬l=c5:=by omega
       have w3: ¬l=Q:=by omega
       simp[aR,w1,w2,w3]
     ·rw[lu];have w: ¬id=c5:=by omega
      have w3: ¬id=Q:=by omega
      refine qq.snoc (n:=S.n) (id:=id) (R:=Q) (R':=S'.n+5) (h:=S'.h) (ids:=ids) r3 r4 ?_ ?_ ?_ (by simp only;omega)
      ·simp[aR,rB,nk5]
      ·simp[aR,ni,w,w3,fa]
      ·intro l a b c;have w1: ∀j,¬l=S'.n+j:=fun j=>by omega
       have w2: ¬l=c5:=by omega
       simp[aR,w1,w2,c]
   have D4:(j:Int)<8:=by omega
   have uD:IntKind.i64.wrap ((j:Int)+1)=j+1:=wrap_i64 (by omega);have tI:j<x.bp.length:=by omega
   have R8:(j:Int)<x.bp.length:=by omega
   obtain⟨⟨ct,cv⟩,rH⟩: ∃c,x.bp[j]=c:=⟨_,rfl⟩;have Uc:=hx.cells.at tI;rw[rH]at Uc;have Mb:=Uc.2;have lu:=Df (aD:=aa) (key:=aq) (an:=ae) tI;rw[rH]at lu;have wN:=uo (aD:=aa) (key:=aq) (an:=ae) (bp:=x.bp) (i:=j) (by omega);obtain⟨al,has⟩: ∃q,gP aa aq ae x.bp j=q:=⟨_,rfl⟩;rw[has]at HO wN lu;have n1: ∀j,¬k=S'.n+j:=fun j=>by omega
   have m1: ∀j,¬k1=S'.n+j:=fun j=>by omega
   have m2: ∀j,¬k2=S'.n+j:=fun j=>by omega
   have m5: ∀j,¬c5=S'.n+j:=fun j=>by omega
   have nS: ∀j,¬c8=S'.n+j:=fun j=>by omega
   have nk: ¬c5=c8:=by omega
   have nk1: ¬k1=c8:=by omega
   have nk2: ¬k2=c8:=by omega
   have nk0: ¬k=c8:=by omega
   rcases HO with⟨Lr,rfl⟩|⟨Lr,id,i1,i2,rfl,fa⟩
   ·simp[aaE,j2,j3,j8,j42,j43,j44,g0,g1,g8,jq,D4,uD,hL,tI,R8,rH,Cell.bS,Mb,n1,m1,nS];refine⟨.cx (S'.n+14) 0 1,⟨by simp[aR,j2],by simp[aR,j3],by simp[aR,j4],by simp[aR,j5],by simp[aR,j8],by simp[aR,j20],by simp[aR,j21],by simp[aR,j22],by simp[aR,j42],by simp[aR,j43],by simp[aR]⟩,⟨by simp[aR,n1,nk0,g0],by simp[aR,m1,nk1,g1,mo],by simp[aR,m2,nk2,g2],by simp[aR,m5,nk,g5],by simp[aR]⟩,?_,?_,q1,q2,by simp only;omega,?_⟩
    ·exact Sz.mono (by omega) fun l a b=>by
      have w1: ∀j,¬l=S'.n+j:=fun j=>by omega
      have w2: ¬l=c8:=by omega
      simp[aR,w1,w2]
    ·exact HT'.mono (by omega) fun l a b=>by
      have w1: ∀j,¬l=S'.n+j:=fun j=>by omega
      have w2: ¬l=c8:=by omega
      simp[aR,w1,w2]
    ·rw[lu,Lr];have w: ∀j,¬S'.n+j=c8:=fun j=>by omega
     refine .inr ⟨by simp,S'.n+14,by omega,by simp only;omega,rfl,by simp[aR,w,Canon.bS]⟩
   ·have ni: ∀j,¬id=S'.n+j:=fun j=>by omega
    have n3: ¬c8=id:=by omega
    simp[aaE,j2,j3,j8,j42,j43,j44,g0,g1,g8,jq,D4,uD,hL,tI,R8,rH,Cell.bS,Mb,n1,m1,nS,fa,ni,n3];have x0: ¬k=id:=by omega
    have x1: ¬k1=id:=by omega
    have x2: ¬k2=id:=by omega
    have x5: ¬c5=id:=by omega
    refine⟨⟨by omega,by omega⟩,fun _ _=>⟨.cx (S'.n+14) 0 (al.length+1),⟨by simp[aR,j2],by simp[aR,j3],by simp[aR,j4],by simp[aR,j5],by simp[aR,j8],by simp[aR,j20],by simp[aR,j21],by simp[aR,j22],by simp[aR,j42],by simp[aR,j43],by simp[aR]⟩,⟨by simp[aR,n1,nk0,x0,g0],by simp[aR,m1,nk1,x1,g1,mo],by simp[aR,m2,nk2,x2,g2],by simp[aR,m5,nk,x5,g5],by simp[aR]⟩,?_,?_,q1,q2,by simp only;omega,?_⟩⟩
    ·exact Sz.mono (by omega) fun l a b=>by
      have w1: ∀j,¬l=S'.n+j:=fun j=>by omega
      have w2: ¬l=c8:=by omega
      have w3: ¬l=id:=by omega
      simp[aR,w1,w2,w3]
    ·exact HT'.mono (by omega) fun l a b=>by
      have w1: ∀j,¬l=S'.n+j:=fun j=>by omega
      have w2: ¬l=c8:=by omega
      have w3: ¬l=id:=by omega
      simp[aR,w1,w2,w3]
    ·rw[lu];have w: ∀j,¬S'.n+j=c8:=fun j=>by omega
     refine .inr ⟨by simp,S'.n+14,by omega,by simp only;omega,by simp,by simp[aR,w,Canon.bS]⟩
  ·simp;have n1: ∀j,¬k=S.n+j:=fun j=>by omega
   have m1: ∀j,¬k1=S.n+j:=fun j=>by omega
   have m2: ∀j,¬k2=S.n+j:=fun j=>by omega
   have m5: ∀j,¬c5=S.n+j:=fun j=>by omega
   refine⟨.sl true [],⟨by simp[aR,f2],by simp[aR,f3],by simp[aR,f4],by simp[aR,f5],by simp[aR,<-hc8],by simp[aR,f20],by simp[aR,f21],by simp[aR,f22],by simp[aR],by simp[aR],by simp[aR]⟩,⟨by simp[aR,n1,h0],by simp[aR,m1,h1,mo],by simp[aR,m2,h2],by simp[aR,m5,h5],by simp[aR,<-hc8]⟩,?_,?_,PX,Bn,by simp only;omega,.inl ⟨u9 _ _ _ _,rfl⟩⟩
   ·exact HRi.mono (aaI _) fun j a b=>by
     have n4: ∀l,¬j=S.n+l:=fun l=>by omega
     simp[aR,n4]
   ·exact HT.mono (aaI _) fun j a b=>by
     have n4: ∀l,¬j=S.n+l:=fun l=>by omega
     simp[aR,n4]
 ·simp;have n5: ∀j,j<13->k+j<k+13:=fun j hj=>by omega
  refine⟨.sl true [],⟨by simp[aR],by simp[aR,<-EG],by simp[aR,<-yc],by simp[aR,<-hc5],by simp[aR],by simp[aR],by simp[aR]⟩,⟨by simp[aR],by simp[aR,mo,<-EG],by simp[aR,<-yc],by simp[aR,<-hc5]⟩,?_,.inl ⟨rfl,rfl⟩,hkR,by simp only;omega⟩;exact HR.mono (aaI _) fun j a b=>by
   have n4: ¬j=k+11:=by omega
   have n5: ¬j<k+13:=by omega
   simp[aR,n4,n5]
def W8(aD:List Int)(key:Int)(an:List Int)(c:Canon):Cell:=(raw aD key an c).1
def OD(aD:List Int)(key:Int)(an:List Int)(cells:List Cell)(b:Nat)(x:List Canon):Nat->List Cell
 |0=>cells
 |k+1=>(OD aD key an cells b x k).set (b+k) (W8 aD key an (x.getD k ⟨0,0,0,0⟩))
def auk(h:k<x.length):OD aD key an cells b x (k+1)=(OD aD key an cells b x k).set (b+k) (W8 aD key an x[k]):=by
 rw[OD];simp[List.getD,h]
def Uf(aD:List Int)(key:Int)(an:List Int)(cells:List Cell)(b:Nat)(x:List Canon)(k:Nat):(OD aD key an cells b x k).length=cells.length:=by
 induction k with
 |zero=>rfl
 |succ k ih=>rw[OD,aaN,ih]
def jP(aD:List Int)(key:Int)(an:List Int)(rs:List (List Canon)):Nat->List Cell
 |0=>List.replicate 512 ⟨0,0⟩
 |r+1=>OD aD key an (jP aD key an rs r) (nth aD r).toNat (rs.getD r []) (rs.getD r []).length
def ae3(h:r<rs.length):jP aD key an rs (r+1)=OD aD key an (jP aD key an rs r) (nth aD r).toNat rs[r] (rs[r]).length:=by
 rw[jP];simp[List.getD,h]
def Kf(aD:List Int)(key:Int)(an:List Int)(rs:List (List Canon))(r:Nat):(jP aD key an rs r).length=512:=by
 induction r with
 |zero=>simp[jP]
 |succ k ih=>rw[jP,Uf,ih]
def zi(aD:List Int)(key:Int)(an:List Int)(l:List Canon):List Cell:=l.map (W8 aD key an)
def OE(aD:List Int)(key:Int)(an:List Int)(l:List Canon):(zi aD key an l).length=l.length:=by simp[zi]
def al7(h:i<l.length):zi aD key an (l.take (i+1))=zi aD key an (l.take i)++ [W8 aD key an l[i]]:=by
 unfold zi;rw[fD h,abL];rfl
def al8(aD:List Int)(key:Int)(an:List Int)(v:View):Thread:=⟨v.state,zi aD key an v.bp,v.pc,v.count,v.cp,v.saved,v.dr,v.code⟩
def ql(aD:List Int)(key:Int)(an:List Int)(l:List View):List Thread:=l.map (al8 aD key an)
def Dh(aD:List Int)(key:Int)(an:List Int)(l:List View):(ql aD key an l).length=l.length:=by simp[ql]
def ae4{l:List View}(h:i<l.length):ql aD key an (l.take (i+1))=ql aD key an (l.take i)++ [al8 aD key an l[i]]:=by
 unfold ql;rw[fD h,abL];rfl
def IP(p:Prog)(l:Layout)(s:State):aO:=⟨l,⟨jP l.aD l.key p.an s.regions s.regions.length,cm⟩,ql l.aD l.key p.an s.threads⟩
def aul(p:Prog)(s:State):Bool:=l5 p.an (rm s s.threads.length)
def EC(p:Prog)(l:Layout)(s:State):aO×Bool:=if aul p s=true then(IP p l s,true) else(iT,false)
@[simp]def ae5(ax:List Instr)(ae:List Int)(ay:List (List Int))(aw:List Int)(bK:Int)(bF:List (List Canon))(ba:List View)(hp:rn (Prog.mk ax ae ay))(hL:nW aw ae)(hs:R6 (Prog.mk ax ae ay) (State.mk bF ba)):ng X [(0,4,112)] 93 [KKQ ax ae ay,KKc aw bK,KKx bF ba]=some (.dP [KKK ((EC (Prog.mk ax ae ay) (Layout.mk aw bK) (State.mk bF ba)).1),.bool ((EC (Prog.mk ax ae ay) (Layout.mk aw bK) (State.mk bF ba)).2)]):=by
 refine aaC ?_;have hz:oI ae:=hp.an;have z4:=hz.le;have hb:aw.length=ae.length:=hL.len;have ln:=mO.2 hL;have b1:aw.length<=1000000000/\ae.length<=1000000000:=by omega
 have r1:bF.length=ae.length:=hs.regions;have r2:=hs.region;have r3:ba.length=4:=hs.threads;have r4:=hs.view;simp only at r2 r4;have r1b:bF.length<=1000000000:=by omega
 have r3b:ba.length<=1000000000:=by omega
 have hle:(cm.map cw.e).length=4:=rfl;have Pt:=Gu (State.mk bF ba) (k:=ba.length) (aaI _);have hlm: ∀x∈rm (State.mk bF ba) ba.length,x.length<=1000000000:=fun x hx=>by
  unfold rm at hx;simp only[aeD,adC]at hx;rcases hx with hx|⟨y,hy,rfl⟩
  ·obtain⟨i,hi,rfl⟩:=abE hx;have q1:i<ae.length:=by omega
   have:=(r2 i hi q1).1;have:=(hz.elem i q1).2;omega
  ·obtain⟨i,hi,rfl⟩:=abE (aaS hy);have:=(r4 i hi).bp;omega
 have X0:aul (Prog.mk ax ae ay) (State.mk bF ba)=l5 ae (rm (State.mk bF ba) ba.length):=rfl;simp only at Pt;obtain⟨ls,hls⟩: ∃ls,rm (State.mk bF ba) ba.length=ls:=⟨_,rfl⟩;rw[hls]at hlm Pt X0;by_cases Bx:l5 ae ls=true
 case neg=>
  have e:EC (Prog.mk ax ae ay) (Layout.mk aw bK) (State.mk bF ba)=(iT,false):=by unfold EC;rw[X0,if_neg Bx]
  rw[e];unfold iT;simp[hp,hs,ln,b1,r1b,r3b,hls];refine cY (fun i S=>(S.f 3= .ptr 3 0 0/\S.h 3=some ⟨3,[KKQ ax ae ay],true⟩/\S.f 4= .ptr 4 0 0/\S.h 4=some ⟨2,[KKc aw bK],true⟩/\S.f 5= .ptr 5 0 0/\S.h 5=some ⟨2,[KKx bF ba],true⟩/\S.f 6= .ptr 6 0 0/\S.h 6=some ⟨5,[KKY ([]:List Int) 0 ([]:List Cell) ([]:List cw) ([]:List Thread)],true⟩/\S.f 37= .sl false ((ls).map bz)/\S.f 38= .int .i64 ((ls.length:Int))/\S.f 39=(i:Int)/\S.n=1100)/\(l5 ae (ls.take i)=true)) (ls.length) (by omega) ?_ ?_ ?_
  ·rintro i S ⟨oY,gS,bL⟩ ⟨df,fg⟩;have L6:=hlm _ (aaL bL);simp[df,bL];refine cY (fun j S=>(S.f 3= .ptr 3 0 0/\S.h 3=some ⟨3,[KKQ ax ae ay],true⟩/\S.f 4= .ptr 4 0 0/\S.h 4=some ⟨2,[KKc aw bK],true⟩/\S.f 5= .ptr 5 0 0/\S.h 5=some ⟨2,[KKx bF ba],true⟩/\S.f 6= .ptr 6 0 0/\S.h 6=some ⟨5,[KKY ([]:List Int) 0 ([]:List Cell) ([]:List cw) ([]:List Thread)],true⟩/\S.f 37= .sl false ((ls).map bz)/\S.f 38= .int .i64 ((ls.length:Int))/\S.f 39=(i:Int)/\S.f 43= .sl false ((ls[i]).map Canon.e)/\S.f 44= .int .i64 (((ls[i]).length:Int))/\S.f 45=(j:Int)/\S.n=1100)/\(py ae ((ls[i]).take j)=true)) ((ls[i]).length) (by omega) ?_ ?_ ?_
   ·rintro j S ⟨mj,uD,jq⟩ ⟨lB,r9⟩;have lu:=G9 (z:=ae) jq;rw[r9]at lu;by_cases c1:proper ae (ls[i])[j]=true
    ·rw[c1]at lu;simp[lB,uD,jq,c1,lu]
    ·simp[lB,jq,c1]
   ·rintro S ⟨lB,r9⟩;rw[D5]at r9;have lu:=D6 (z:=ae) bL;rw[fg,r9]at lu;simp[bL,lB,lu,gS];try omega
   ·simp[df]<;>(
     rfl)
  ·rintro S ⟨df,fg⟩;simp[df]<;>(
    rw[Cb]at fg;exact absurd fg Bx)
  ·simp<;>(
    rfl)
 have e:EC (Prog.mk ax ae ay) (Layout.mk aw bK) (State.mk bF ba)=(IP (Prog.mk ax ae ay) (Layout.mk aw bK) (State.mk bF ba),true):=by unfold EC;rw[X0,if_pos Bx]
 rw[e];have hpi: ∀i (h:i<ls.length),py ae ls[i]=true:=fun i h=>List.all_eq_true.1 Bx _ (aaL h);have hpj: ∀i (h:i<ls.length) j (g:j<(ls[i]).length),proper ae (ls[i])[j]=true:=fun i h j g=>List.all_eq_true.1 (hpi i h) _ (aaL g);unfold IP;simp[hp,hs,ln,b1,r1b,r3b,hls];refine cY (fun i S=>(S.f 3= .ptr 3 0 0/\S.h 3=some ⟨3,[KKQ ax ae ay],true⟩/\S.f 4= .ptr 4 0 0/\S.h 4=some ⟨2,[KKc aw bK],true⟩/\S.f 5= .ptr 5 0 0/\S.h 5=some ⟨2,[KKx bF ba],true⟩/\S.f 6= .ptr 6 0 0/\S.h 6=some ⟨5,[KKY ([]:List Int) 0 ([]:List Cell) ([]:List cw) ([]:List Thread)],true⟩/\S.f 37= .sl false ((ls).map bz)/\S.f 38= .int .i64 ((ls.length:Int))/\S.f 39=(i:Int)/\S.n=1100)/\True) (ls.length) (by omega) ?_ ?_ ?_
 ·rintro i S ⟨oY,gS,bL⟩ ⟨Am,Py⟩;have L6:=hlm _ (aaL bL);simp[Am,bL];refine cY (fun j S=>(S.f 3= .ptr 3 0 0/\S.h 3=some ⟨3,[KKQ ax ae ay],true⟩/\S.f 4= .ptr 4 0 0/\S.h 4=some ⟨2,[KKc aw bK],true⟩/\S.f 5= .ptr 5 0 0/\S.h 5=some ⟨2,[KKx bF ba],true⟩/\S.f 6= .ptr 6 0 0/\S.h 6=some ⟨5,[KKY ([]:List Int) 0 ([]:List Cell) ([]:List cw) ([]:List Thread)],true⟩/\S.f 37= .sl false ((ls).map bz)/\S.f 38= .int .i64 ((ls.length:Int))/\S.f 39=(i:Int)/\S.f 43= .sl false ((ls[i]).map Canon.e)/\S.f 44= .int .i64 (((ls[i]).length:Int))/\S.f 45=(j:Int)/\S.n=1100)/\True) ((ls[i]).length) (by omega) ?_ ?_ ?_
  ·rintro j S ⟨mj,uD,jq⟩ ⟨hI3,hP3⟩;have c1:=hpj i bL j jq;simp[hI3,uD,jq,c1]
  ·rintro S ⟨hI3,hP3⟩;simp[bL,hI3,gS];try omega
  ·simp[Am]<;>(
    trivial)
 ·rintro S ⟨Am,Py⟩;simp[Am];refine⟨⟨by omega,by omega⟩,fun _ _=> ?_⟩;refine cY (fun r S=>(S.f 3= .ptr 3 0 0/\S.h 3=some ⟨3,[KKQ ax ae ay],true⟩/\S.f 4= .ptr 4 0 0/\S.h 4=some ⟨2,[KKc aw bK],true⟩/\S.f 5= .ptr 5 0 0/\S.h 5=some ⟨2,[KKx bF ba],true⟩/\S.f 6= .ptr 6 0 0/\S.h 6=some ⟨5,[KKY ([]:List Int) 0 ([]:List Cell) ([]:List cw) ([]:List Thread)],true⟩/\S.f 12= .ptr 12 0 0/\S.h 1000=some ⟨2,(⟨⟨aw,bK⟩,⟨jP aw bK ae bF r,cm⟩,[]⟩:aO).memory.cells.map Cell.e,false⟩/\S.h 1001=some ⟨8,(⟨⟨aw,bK⟩,⟨jP aw bK ae bF r,cm⟩,[]⟩:aO).threads.map Thread.e,false⟩/\S.h 12=some ⟨5,[KKD (⟨⟨aw,bK⟩,⟨jP aw bK ae bF r,cm⟩,[]⟩:aO).layout.aD (⟨⟨aw,bK⟩,⟨jP aw bK ae bF r,cm⟩,[]⟩:aO).layout.key (.cx 1000 0 ((⟨⟨aw,bK⟩,⟨jP aw bK ae bF r,cm⟩,[]⟩:aO).memory.cells.map Cell.e).length) (⟨⟨aw,bK⟩,⟨jP aw bK ae bF r,cm⟩,[]⟩:aO).memory.lines (.cx 1001 0 ((⟨⟨aw,bK⟩,⟨jP aw bK ae bF r,cm⟩,[]⟩:aO).threads.map Thread.e).length)],true⟩/\S.f 68=bF/\S.f 69=((bF).length:Int)/\S.f 70=(r:Int)/\S.n=1102)/\True) (bF.length) (by omega) ?_ ?_ ?_
  ·rintro r S ⟨hir,Qb,C1⟩ ⟨hI4,hP4⟩;have g1:r<ae.length:=by omega
   have g2:r<aw.length:=by omega
   have hd:=(r2 r C1 g1).1;have H7:=hL.base r g2 g1;have hzz:=hz.elem r g1;obtain⟨b,TZ⟩: ∃b:Nat,aw[r]=b:=⟨(aw[r]).toNat,by omega⟩;have lu:jP aw bK ae bF (r+1)=OD aw bK ae (jP aw bK ae bF r) b bF[r] (bF[r]).length:=by
    rw[ae3 C1,dE g2,TZ];rfl
   have H6:=Kf aw bK ae bF r;simp[hI4,C1];refine cY (fun o S=>(S.f 3= .ptr 3 0 0/\S.h 3=some ⟨3,[KKQ ax ae ay],true⟩/\S.f 4= .ptr 4 0 0/\S.h 4=some ⟨2,[KKc aw bK],true⟩/\S.f 5= .ptr 5 0 0/\S.h 5=some ⟨2,[KKx bF ba],true⟩/\S.f 6= .ptr 6 0 0/\S.h 6=some ⟨5,[KKY ([]:List Int) 0 ([]:List Cell) ([]:List cw) ([]:List Thread)],true⟩/\S.f 12= .ptr 12 0 0/\S.h 1000=some ⟨2,(⟨⟨aw,bK⟩,⟨OD aw bK ae (jP aw bK ae bF r) b bF[r] o,cm⟩,[]⟩:aO).memory.cells.map Cell.e,false⟩/\S.h 1001=some ⟨8,(⟨⟨aw,bK⟩,⟨OD aw bK ae (jP aw bK ae bF r) b bF[r] o,cm⟩,[]⟩:aO).threads.map Thread.e,false⟩/\S.h 12=some ⟨5,[KKD (⟨⟨aw,bK⟩,⟨OD aw bK ae (jP aw bK ae bF r) b bF[r] o,cm⟩,[]⟩:aO).layout.aD (⟨⟨aw,bK⟩,⟨OD aw bK ae (jP aw bK ae bF r) b bF[r] o,cm⟩,[]⟩:aO).layout.key (.cx 1000 0 ((⟨⟨aw,bK⟩,⟨OD aw bK ae (jP aw bK ae bF r) b bF[r] o,cm⟩,[]⟩:aO).memory.cells.map Cell.e).length) (⟨⟨aw,bK⟩,⟨OD aw bK ae (jP aw bK ae bF r) b bF[r] o,cm⟩,[]⟩:aO).memory.lines (.cx 1001 0 ((⟨⟨aw,bK⟩,⟨OD aw bK ae (jP aw bK ae bF r) b bF[r] o,cm⟩,[]⟩:aO).threads.map Thread.e).length)],true⟩/\S.f 13= .int .i64 ((r:Int))/\S.f 68=bF/\S.f 69=((bF).length:Int)/\S.f 70=(r:Int)/\S.f 75= .sl false ((bF[r]).map Canon.e)/\S.f 76= .int .i64 (((bF[r]).length:Int))/\S.f 77=(o:Int)/\S.n=1102)/\True) ((bF[r]).length) (by omega) ?_ ?_ ?_
   ·rintro o S ⟨Bm,hwo,aez⟩ ⟨hI5,hP5⟩;have EG:=Uf aw bK ae (jP aw bK ae bF r) b bF[r] o;rw[H6]at EG;have hu:=auk (aD:=aw) (key:=bK) (an:=ae) (cells:=jP aw bK ae bF r) (b:=b) aez;unfold W8 at hu;obtain⟨⟨ct,cv,cr,co⟩,rH⟩: ∃c,(bF[r])[o]=c:=⟨_,rfl⟩;rw[rH]at hu;have aly: ∀(x:Cell) (a b:Int),(Cell.e x).put 0 (V.agg [.int .u8 a,.int .u16 b])=V.agg [.int .u8 a,.int .u16 b]:=fun _ _ _=>rfl;obtain⟨q,hq⟩: ∃q:Nat,b+o=q:=⟨_,rfl⟩;rw[hq]at hu;have gZ:q<512:=by omega
    have BW:(q:Int)<512:=by omega
    have hw:IntKind.i64.wrap ((b:Int)+o)=(q:Int):=by rw[wrap_i64 (by omega)];omega
    simp[hI5,hwo,aez,hL,rH,g2,TZ,EG,gZ,BW,hw,hu,List.getD,Cell.bS]
   ·rintro S ⟨hI5,hP5⟩;simp[C1,hI5,lu,Qb]
   ·simp[hI4]<;>(
     exact⟨rfl,rfl⟩)
  ·rintro S ⟨hI4,hP4⟩;simp[hI4];refine cY (fun k S=>(S.f 3= .ptr 3 0 0/\S.h 3=some ⟨3,[KKQ ax ae ay],true⟩/\S.f 4= .ptr 4 0 0/\S.h 4=some ⟨2,[KKc aw bK],true⟩/\S.f 6= .ptr 6 0 0/\S.h 6=some ⟨5,[KKY ([]:List Int) 0 ([]:List Cell) ([]:List cw) ([]:List Thread)],true⟩/\S.f 12= .ptr 12 0 0/\S.h 1000=some ⟨2,(⟨⟨aw,bK⟩,⟨jP aw bK ae bF bF.length,cm⟩,ql aw bK ae (ba.take k)⟩:aO).memory.cells.map Cell.e,false⟩/\S.h 1001=some ⟨8,(⟨⟨aw,bK⟩,⟨jP aw bK ae bF bF.length,cm⟩,ql aw bK ae (ba.take k)⟩:aO).threads.map Thread.e,false⟩/\S.h 12=some ⟨5,[KKD (⟨⟨aw,bK⟩,⟨jP aw bK ae bF bF.length,cm⟩,ql aw bK ae (ba.take k)⟩:aO).layout.aD (⟨⟨aw,bK⟩,⟨jP aw bK ae bF bF.length,cm⟩,ql aw bK ae (ba.take k)⟩:aO).layout.key (.cx 1000 0 ((⟨⟨aw,bK⟩,⟨jP aw bK ae bF bF.length,cm⟩,ql aw bK ae (ba.take k)⟩:aO).memory.cells.map Cell.e).length) (⟨⟨aw,bK⟩,⟨jP aw bK ae bF bF.length,cm⟩,ql aw bK ae (ba.take k)⟩:aO).memory.lines (.cx 1001 0 ((⟨⟨aw,bK⟩,⟨jP aw bK ae bF bF.length,cm⟩,ql aw bK ae (ba.take k)⟩:aO).threads.map Thread.e).length)],true⟩/\S.f 104=ba/\S.f 105=((ba).length:Int)/\S.f 106=(k:Int)/\S.n=1102)/\True) (ba.length) (by omega) ?_ ?_ ?_
   ·rintro k S ⟨Jc,ER,kK⟩ ⟨hI6,hP6⟩;have lu:=ae4 (aD:=aw) (key:=bK) (an:=ae) kK;have hr8:=(r4 k kK).bp;simp[hI6,kK];refine cY (fun q S=>(S.f 3= .ptr 3 0 0/\S.h 3=some ⟨3,[KKQ ax ae ay],true⟩/\S.f 4= .ptr 4 0 0/\S.h 4=some ⟨2,[KKc aw bK],true⟩/\S.f 6= .ptr 6 0 0/\S.h 6=some ⟨5,[KKY ([]:List Int) 0 ([]:List Cell) ([]:List cw) ([]:List Thread)],true⟩/\S.f 12= .ptr 12 0 0/\S.h 1000=some ⟨2,(⟨⟨aw,bK⟩,⟨jP aw bK ae bF bF.length,cm⟩,ql aw bK ae (ba.take k)⟩:aO).memory.cells.map Cell.e,false⟩/\S.h 1001=some ⟨8,(⟨⟨aw,bK⟩,⟨jP aw bK ae bF bF.length,cm⟩,ql aw bK ae (ba.take k)⟩:aO).threads.map Thread.e,false⟩/\S.h 12=some ⟨5,[KKD (⟨⟨aw,bK⟩,⟨jP aw bK ae bF bF.length,cm⟩,ql aw bK ae (ba.take k)⟩:aO).layout.aD (⟨⟨aw,bK⟩,⟨jP aw bK ae bF bF.length,cm⟩,ql aw bK ae (ba.take k)⟩:aO).layout.key (.cx 1000 0 ((⟨⟨aw,bK⟩,⟨jP aw bK ae bF bF.length,cm⟩,ql aw bK ae (ba.take k)⟩:aO).memory.cells.map Cell.e).length) (⟨⟨aw,bK⟩,⟨jP aw bK ae bF bF.length,cm⟩,ql aw bK ae (ba.take k)⟩:aO).memory.lines (.cx 1001 0 ((⟨⟨aw,bK⟩,⟨jP aw bK ae bF bF.length,cm⟩,ql aw bK ae (ba.take k)⟩:aO).threads.map Thread.e).length)],true⟩/\S.f 19= .ptr 19 0 0/\S.h 1002=some ⟨2,(⟨(ba[k]).state,zi aw bK ae ((ba[k]).bp.take q),(ba[k]).pc,(ba[k]).count,(ba[k]).cp,(ba[k]).saved,(ba[k]).dr,(ba[k]).code⟩:Thread).bp.map Cell.e,false⟩/\S.h 19=some ⟨8,[KKd (⟨(ba[k]).state,zi aw bK ae ((ba[k]).bp.take q),(ba[k]).pc,(ba[k]).count,(ba[k]).cp,(ba[k]).saved,(ba[k]).dr,(ba[k]).code⟩:Thread).state (.cx 1002 0 ((⟨(ba[k]).state,zi aw bK ae ((ba[k]).bp.take q),(ba[k]).pc,(ba[k]).count,(ba[k]).cp,(ba[k]).saved,(ba[k]).dr,(ba[k]).code⟩:Thread).bp.map Cell.e).length) (⟨(ba[k]).state,zi aw bK ae ((ba[k]).bp.take q),(ba[k]).pc,(ba[k]).count,(ba[k]).cp,(ba[k]).saved,(ba[k]).dr,(ba[k]).code⟩:Thread).pc (⟨(ba[k]).state,zi aw bK ae ((ba[k]).bp.take q),(ba[k]).pc,(ba[k]).count,(ba[k]).cp,(ba[k]).saved,(ba[k]).dr,(ba[k]).code⟩:Thread).count (⟨(ba[k]).state,zi aw bK ae ((ba[k]).bp.take q),(ba[k]).pc,(ba[k]).count,(ba[k]).cp,(ba[k]).saved,(ba[k]).dr,(ba[k]).code⟩:Thread).cp (⟨(ba[k]).state,zi aw bK ae ((ba[k]).bp.take q),(ba[k]).pc,(ba[k]).count,(ba[k]).cp,(ba[k]).saved,(ba[k]).dr,(ba[k]).code⟩:Thread).saved (⟨(ba[k]).state,zi aw bK ae ((ba[k]).bp.take q),(ba[k]).pc,(ba[k]).count,(ba[k]).cp,(ba[k]).saved,(ba[k]).dr,(ba[k]).code⟩:Thread).dr (⟨(ba[k]).state,zi aw bK ae ((ba[k]).bp.take q),(ba[k]).pc,(ba[k]).count,(ba[k]).cp,(ba[k]).saved,(ba[k]).dr,(ba[k]).code⟩:Thread).code],true⟩/\S.f 104=ba/\S.f 105=((ba).length:Int)/\S.f 106=(k:Int)/\S.f 126= .sl false (((ba[k]).bp).map Canon.e)/\S.f 127= .int .i64 (((ba[k]).bp.length:Int))/\S.f 128=(q:Int)/\S.n=1103)/\True) ((ba[k]).bp.length) (by omega) ?_ ?_ ?_
    ·rintro q S ⟨hiq,hwq,a2g⟩ ⟨hI7,hP7⟩;have hu:=al7 (aD:=aw) (key:=bK) (an:=ae) a2g;unfold W8 at hu;obtain⟨⟨ct,cv,cr,co⟩,rH⟩: ∃c,((ba[k]).bp)[q]=c:=⟨_,rfl⟩;rw[rH]at hu;have qH:=OE aw bK ae ((ba[k]).bp.take q);rw[acW (by omega)]at qH;simp[hI7,hwq,a2g,hL,rH,hu];exact⟨⟨by omega,by omega⟩,fun _ _=>rfl⟩
    ·rintro S ⟨hI7,hP7⟩;have nd:=Dh aw bK ae (ba.take k);rw[acW (by omega)]at nd;simp[kK,hI7,lu,ER];exact⟨⟨by omega,by omega⟩,fun _ _=>rfl⟩
    ·simp[hI6]<;>(
      trivial)
   ·rintro S ⟨hI6,hP6⟩;simp[hI6,lb]
   ·simp[hI4]<;>(
     trivial)
  ·simp[Am]<;>(
    trivial)
 ·simp<;>(
   trivial)
structure ur (p:Prog) (d:Int) (s:State):Prop where
 p:R6 p s
 rv: ∀l∈s.regions,hY l
 tv: ∀v∈s.threads,hY v.bp/\(0<=v.code/\v.code<=65535)/\v.count<=d
def Xb:Dc ⟨0,0,0,0⟩:=⟨by simp,by simp⟩
def hY.getD{l:List Canon}(h:hY l)(i:Nat):Dc (l.getD i ⟨0,0,0,0⟩):=by
 rcases aaR i l.length with g|g
 ·rw[aaQ,aaJ g];exact h _ (aaL g)
 ·rw[aaQ,abI g];exact Xb
def aqh{aD:List Int}{key:Int}{an:List Int}{cells:List Cell}{b:Nat}{x:List Canon}(h:ed cells)(hx:hY x): ∀k,ed (OD aD key an cells b x k)
 |0=>h
 |k+1=>(aqh h hx k).set (wC (hx.getD k)) _
def Ug{aD:List Int}{key:Int}{an:List Int}{rs:List (List Canon)}(h: ∀l∈rs,hY l): ∀r,ed (jP aD key an rs r)
 |0=>zk 512
 |r+1=>aqh (Ug h r) (by
   rcases aaR r rs.length with g|g
   ·rw[aaQ,aaJ g];exact h _ (aaL g)
   ·rw[aaQ,abI g];exact .nil) _
def SH(h:cells.length=512)(hc:ed cells):qi ⟨cells,cm⟩:=by
 have el: ∀i,i<4->cm[i]?=some eh:=fun i hi=>by unfold cm;rw[List.getElem?_replicate,if_pos hi]
 refine⟨⟨h,rfl,Kh hc,fun i hi=> ?_⟩,hc,fun i=> ?_⟩
 ·have e:(aF.mk cells cm).lines[i]=eh:=by
   have e2:(aF.mk cells cm).lines[i]?=some eh:=el i (by simpa[cm] using hi);rw[aaJ hi]at e2;exact aeE e2
  rw[e];exact zL.1 rfl
 ·unfold dg;by_cases hi:i<4
  ·simp only[List.getD,el i hi,abV];exact fun c hc=>by cases hc
  ·have:(aF.mk cells cm).lines[i]?=none:=abI (by simp[cm];omega);simp only[List.getD,this,adE];exact fun c hc=>by cases hc
def aun(h:hY l):ed (zi aD key an l):=fun c hc=>by
 unfold zi at hc;obtain⟨x,hx,rfl⟩:=List.mem_map.1 hc;exact wC (h x hx)
def amd{l:Layout}{s:State}(hp:rn p)(hL:nW l.aD p.an)(hk:0<=l.key/\l.key<=65535)(hs:ur p d s):cT p d (IP p l s):=by
 refine⟨hp,hL,hk,SH (Kf ..) (Ug hs.rv _),by simp[IP,Dh,hs.p.threads],fun i hi=> ?_,fun _=>J1 _ _⟩;have oy:i<s.threads.length:=by simpa[IP,Dh] using hi
 have e:(IP p l s).threads[i]=al8 l.aD l.key p.an s.threads[i]:=by simp[IP,ql]
 rw[e];have v:=hs.p.view i oy;obtain⟨t1,t2,t3⟩:=hs.tv _ (aaL oy);exact⟨v.state,by simp[al8,OE,v.bp],aun t1,v.pc,⟨v.count.1,t3⟩,v.cp,v.saved,v.dr,t2⟩
def Uh(hL:nW aD an){c:Cell}(hc:iz c):lN (canon aD key an c)=true:=by
 have z4:=hL.sz.le;unfold canon;split
 ·simp[lN]
 split
 ·simp[lN]
 split
 ·rename_i h;obtain⟨k,hk,qT,e,b1,b2⟩:=j6 h;have zz:=hL.sz.elem k qT;rw[e];simp[lN];omega
 ·have:=hc.2;simp[lN];omega
def OJ(h: ∀c∈l,lN c=true):jd l=true:=List.all_eq_true.2 h
def Hf(hL:nW aD an)(hM:qi mem)(r:Nat):jd (vb aD key an mem r)=true/\hY (vb aD key an mem r):=by
 refine⟨OJ fun c hc=> ?_,Ud hM _ _⟩;unfold vb mq at hc;obtain⟨x,hx,rfl⟩:=List.mem_map.1 hc;exact Uh hL (ed.look hM _)
def Xc(h:cT p d m)(hd:d<=1099511627776):ur p d (sW p m):=by
 have hz:=h.prog.an;refine⟨⟨by simp[sW,vF],fun i hi oy=> ?_,by simp[sW,px,h.len],fun i hi=> ?_⟩,fun l hl=> ?_,fun v hv=> ?_⟩
 ·have e:(sW p m).regions[i]=vb m.layout.aD m.layout.key p.an m.memory i:=by simp[sW,ld]
  rw[e];have:=hz.elem i oy;refine⟨?_,(Hf h.lay h.mem i).1⟩;unfold vb;rw[tM,dE oy];omega
 ·have oy:i<m.threads.length:=by simpa[sW,px] using hi
  have e:(sW p m).threads[i]=Ca m.layout.aD m.layout.key p.an m.threads[i]:=by simp[sW,px]
  rw[e];have x:=h.pe i oy;exact⟨x.state,x.pc,⟨x.count.1,by have:=x.count.2;simp only[Ca];omega⟩,x.cp,x.saved,x.dr,by simp[Ca,x.bp],OJ fun c hc=>by
   simp only[Ca]at hc;obtain⟨y,hy,rfl⟩:=List.mem_map.1 hc;exact Uh h.lay (x.cells y hy)⟩
 ·simp only[sW,ld]at hl;obtain⟨r,_,rfl⟩:=List.mem_map.1 hl;exact(Hf h.lay h.mem r).2
 ·simp only[sW,px]at hv;obtain⟨x,hx,rfl⟩:=List.mem_map.1 hv;obtain⟨i,hi,rfl⟩:=abE hx;have g:=h.pe i hi;exact⟨fun c hc=>by
   simp only[Ca]at hc;obtain⟨y,hy,rfl⟩:=List.mem_map.1 hc;exact Lo (g.cells y hy),g.code,g.count.2⟩
def Ku(h:0<=c/\c<=15):uU c=((dh c).length:Int):=if_neg (by omega)
def anl(h:0<=c/\c<=15):0<=my c:=by
 unfold my;rw[if_neg (by omega)];split
 ·omega
 ·split<;>omega
@[simp]def EF(ax:List Instr)(ae:List Int)(ay:List (List Int))(aa:List Int)(aq:Int)(ak:List Cell)(ah:List cw)(au:List Thread)(t:Int)(hm:au.length=4)(ht:0<=t/\t<4)(hL:nW aa ae)(hl:ax.length<=1000)(hr:(au.getD t.toNat cn).bp.length=8)(FH:yR (au.getD t.toNat cn).bp)(hp:1<=(au.getD t.toNat cn).pc/\(au.getD t.toNat cn).pc<=ax.length)(ho:(kU ax (au.getD t.toNat cn).pc).op=23)(hc:0<=(kU ax (au.getD t.toNat cn).pc).eu/\(kU ax (au.getD t.toNat cn).pc).eu<=15)(Cn:(au.getD t.toNat cn).pc<=255):bU X 154 [KKQ ax ae ay,KKY aa aq ak ah au,.int .i64 t]=some (.int .i64 (vE aa ae ax.length (kU ax (au.getD t.toNat cn).pc).eu (au.getD t.toNat cn).bp)):=by
 refine aaA ?_;obtain⟨k,rfl⟩:=aaG ht.1;have hk:k<au.length:=by omega
 have xY:(k:Int)<4:=by omega
 have hkn: ¬(4:Int)<=(k:Int):=by omega
 have hk4:k<4:=by omega
 have hkz: ¬(k:Int)<0:=by omega
 have hx:au.getD (k:Int).toNat cn=au[k]:=by simp[List.getD,hk]
 rw[hx]at hr FH hp ho hc Cn⊢;have Yx:=Oa hp ho;have hp0:0<=(au[k]).pc/\(au[k]).pc<=255:=by omega
 obtain⟨c,s9⟩: ∃c,(kU ax (au[k]).pc).eu=c:=⟨_,rfl⟩;rw[s9]at hc Yx⊢;obtain⟨bp,Ey⟩: ∃r,(au[k]).bp=r:=⟨_,rfl⟩;rw[Ey]at hr FH⊢;have k3:=pb hc;have tl:=GH hc hr;have c0:=FH 0 (by omega);have c1:=FH 1 (by omega);have c2:=FH 2 (by omega);obtain⟨r0,e0⟩: ∃x,bp[0]'(by omega)=x:=⟨_,rfl⟩;obtain⟨⟨r1t,Sa⟩,e1⟩: ∃x,bp[1]'(by omega)=x:=⟨_,rfl⟩;obtain⟨r2,e2⟩: ∃x,bp[2]'(by omega)=x:=⟨_,rfl⟩;rw[e0]at c0;rw[e1]at c1;rw[e2]at c2;simp only at c1;have g0:bp.getD 0 ⟨0,0⟩=r0:=by simp[List.getD,hr,e0]
 have g1:bp.getD 1 ⟨0,0⟩=⟨r1t,Sa⟩:=by simp[List.getD,hr,e1]
 have g2:bp.getD 2 ⟨0,0⟩=r2:=by simp[List.getD,hr,e2]
 have q0:bp[0]?.getD ⟨0,0⟩=r0:=g0;have q1:bp[1]?.getD ⟨0,0⟩=⟨r1t,Sa⟩:=g1;have q2:bp[2]?.getD ⟨0,0⟩=r2:=g2;have l0:0<bp.length:=by omega
 have l1:1<bp.length:=by omega
 have l2:2<bp.length:=by omega
 have v1:0<=Sa/\Sa<=65535:=by omega
 have v2':r2.val<=1000000:=by omega
 have w0:IntKind.i64.wrap r0.val=r0.val:=wrap_i64 (by omega);have w2:IntKind.i64.wrap r2.val=r2.val:=wrap_i64 (by omega);have hA:uU c=((dh c).length:Int):=Ku hc;have hbm:=anl hc;have hmx:(if 0<(dh c).length then((dh c).length:Int) else 0)=((dh c).length:Int):=by split<;>omega
 rw[C6,g0,g1,g2];simp[hm,xY,hkn,hk4,hkz,hl,hp0,Yx,hA,Ey];refine cY (fun i S=>(S.f 3= .ptr 3 0 0/\S.h 3=some ⟨3,[KKQ ax ae ay],true⟩/\S.f 4= .ptr 4 0 0/\S.h 4=some ⟨5,[KKY aa aq ak ah au],true⟩/\S.f 7= .ptr 7 0 0/\S.h 7=some ⟨8,[KKe (au[k])],true⟩/\S.f 8= .int .i64 (c)/\S.f 9= .cx 9 0 ((((mz c bp).take i).map (V.int .u8))).length/\S.h 9=some ⟨1,(((mz c bp).take i).map (V.int .u8)),false⟩/\S.f 33= .int .i64 (((dh c).length:Int))/\S.f 34=(i:Int)/\S.n=1100)/\True) ((dh c).length) (by omega) ?_ ?_ ?_
 ·rintro i S ⟨oY,gS,bL⟩ ⟨df,fg⟩;have i8:i<8:=by omega
  have Ym:(i:Int)<8:=by omega
  have il:i<bp.length:=by omega
  have it:i<(mz c bp).length:=by omega
  have ta:=JV it il;have gi:bp[i]?.getD ⟨0,0⟩=bp[i]:=by rw[aaJ il];rfl
  have tg:=pY (f:=V.int .u8) it;rw[ta]at tg;have b1:i<=140737488355327:=by omega
  have b2:i<=4611686018427387903:=by omega
  have lS:min (i+1) (dh c).length=i+1:=by omega
  simp[df,oY,gS,bL,Ey,hr,i8,Ym,tl,tg,b1,b2,lS]
 ·rintro S ⟨df,fg⟩;have kb:(dh c).length<=1000000000:=by omega
  have tm: ∀f:Int->V,List.take (dh c).length ((mz c bp).map f)=(mz c bp).map f:=fun f=>aZ (by simp[tl]);have tmo: ∀f:Int->Option V,List.take (dh c).length ((mz c bp).map f)=(mz c bp).map f:=fun f=>aZ (by simp[tl]);have tt:(mz c bp).take (dh c).length=mz c bp:=aZ (by omega);cases Jd:iI (dh c) (mz c bp) with
  |false=>
   simp[df,kb,tl,tt,tm,hc,Jd]
  |true=>
   by_cases hb:0<my c
   ·have X6: ¬my c=0:=by omega
    by_cases hw:(ko aa ae ⟨r1t,Sa⟩ r2.val).2=0
    ·by_cases h16:16<r2.val
     ·simp[df,kb,tl,tt,tm,hc,Jd,hb,X6,hL,v1,v2',w2,Ey,hr,e1,e2,hw,h16]
     ·have n10: ¬c=10:=fun e=>by rw[e]at hb;revert hb;decide
      have n12: ¬c=12:=fun e=>by rw[e]at hb;revert hb;decide
      simp[df,kb,tl,tt,tm,hc,Jd,hb,X6,hL,v1,v2',w2,Ey,hr,e1,e2,hw,h16,n10,n12]
    ·simp[df,kb,tl,tt,tm,hc,Jd,hb,X6,hL,v1,v2',w2,Ey,hr,e1,e2,hw]
   ·have hbz:my c=0:=by omega
    by_cases Lh:c=10
    ·have Oc:=eq_true Lh;by_cases hv:(ax.length:Int)<=r0.val
     ·simp[df,kb,tl,tt,tm,hc,Jd,hbz,w0,Ey,hr,e0,Oc,hv]
     ·simp[df,kb,tl,tt,tm,hc,Jd,hbz,w0,Ey,hr,e0,Oc,hv]
    ·by_cases Pw:c=12
     ·have adx:=eq_true Pw;by_cases hv:(ax.length:Int)<=r0.val
      ·simp[df,kb,tl,tt,tm,hc,Jd,hbz,w0,Ey,hr,e0,Lh,adx,hv]
      ·simp[df,kb,tl,tt,tm,hc,Jd,hbz,w0,Ey,hr,e0,Lh,adx,hv]
     ·simp[df,kb,tl,tt,tm,hc,Jd,hbz,Lh,Pw]
 ·simp[hmx,Ey]
def Two(k:Nat)(A D:List Canon)(v:V)(h:bh)(n:Nat):Prop:= ∃vA vD,v= .dP [vA,vD]/\Dg Canon.e 4 k A vA h n/\Dg Canon.e 4 k D vD h n
def Dg.lower{f:α->V}{c k':Nat}{l:List α}(H:Dg f c k l v h n)(hk:k'<=k):Dg f c k' l v h n:=by
 rcases H with H|⟨h0,id,k1,k2,e,g⟩
 ·exact .inl H
 ·exact .inr ⟨h0,id,by omega,k2,e,g⟩
@[simp]def anm(ax:List Instr)(ae:List Int)(ay:List (List Int))(aa:List Int)(aq:Int)(ak:List Cell)(ah:List cw)(au:List Thread)(iu:Int)(cN:List Cell)(jQ dS da dT jx jy call:Int)(k:Nat)(hL:nW aa ae)(hM:qi ⟨ak,ah⟩)(hr:cN.length=8)(hrc:ed cN)(hc:0<=call/\call<=15)(hb:my call=1->0<=(cN.getD 1 ⟨0,0⟩).val/\0<=(cN.getD 2 ⟨0,0⟩).val/\(cN.getD 2 ⟨0,0⟩).val<=16/\(cN.getD 1 ⟨0,0⟩).val+(cN.getD 2 ⟨0,0⟩).val<=512): ∃v h' k',cL X 157 [KKQ ax ae ay,KKY aa aq ak ah au,KKg iu cN jQ dS da dT jx jy,.int .i64 call] pK k=some (v,h',k')/\Two k (gP aa aq ae cN (dh call).length) (if my call=1 then mq aa aq ae ⟨ak,ah⟩ (cN.getD 1 ⟨0,0⟩).val.toNat (cN.getD 2 ⟨0,0⟩).val.toNat else []) v h' k':=by
 have l1:1<cN.length:=by omega
 have l2:2<cN.length:=by omega
 obtain⟨⟨r1t,Sa⟩,e1⟩: ∃x,cN[1]'l1=x:=⟨_,rfl⟩;obtain⟨⟨r2t,r2v⟩,e3⟩: ∃x,cN[2]'l2=x:=⟨_,rfl⟩;have g1:cN.getD 1 ⟨0,0⟩=⟨r1t,Sa⟩:=by simp[List.getD,hr,e1]
 have g2:cN.getD 2 ⟨0,0⟩=⟨r2t,r2v⟩:=by simp[List.getD,hr,e3]
 have q1:cN[1]?.getD ⟨0,0⟩=⟨r1t,Sa⟩:=g1;have q2:cN[2]?.getD ⟨0,0⟩=⟨r2t,r2v⟩:=g2;rw[g1,g2]at hb⊢;simp only at hb⊢;have k3:=pb hc;have hA:uU call=((dh call).length:Int):=Ku hc;have z:=u9 aa aq ae cN;have kk: ∀j,¬k=k+1+j:=fun j=>by omega
 refine aaB ?_;simp[aaE,hA];refine lW (fun i S=>(S.f 3= .int .i64 call/\S.f 4= .ptr k 0 0/\S.f 5= .ptr (k+1) 0 0/\S.f 6= .ptr (k+2) 0 0/\S.f 11= .sl true []/\S.f 18=((dh call).length:Int)/\S.f 19=(i:Int))/\
  (S.h k=some ⟨3,[KKQ ax ae ay],true⟩/\S.h (k+1)=some ⟨5,[KKY aa aq ak ah au],true⟩/\S.h (k+2)=some ⟨8,[KKg iu cN jQ dS da dT jx jy],true⟩)/\
  Dg Canon.e 4 (k+3) (gP aa aq ae cN i) (S.f 10) S.h S.n/\k+3<=S.n) (dh call).length ?_ 0 (by simp) ?_
 ·rintro i S hi ⟨⟨f3,f4,f5,f6,f11,f18,f19⟩,⟨h0,h1,h2⟩,HO,hn⟩;have n0: ∀j,¬k=S.n+j:=fun j=>by omega
  have n1: ∀j,¬k+1=S.n+j:=fun j=>by omega
  have n2: ∀j,¬k+2=S.n+j:=fun j=>by omega
  have len:=uo (aD:=aa) (key:=aq) (an:=ae) (bp:=cN) (i:=i) (by omega);by_cases gZ:i<(dh call).length
  ·have i8:i<8:=by omega
   have Ym:(i:Int)<8:=by omega
   have il:i<cN.length:=by omega
   have gS:=mZ i (by omega);have up:=Df (aD:=aa) (key:=aq) (an:=ae) il;obtain⟨⟨ct,cv⟩,rH⟩: ∃x,cN[i]=x:=⟨_,rfl⟩;have s9:=rH▸hrc.at il;have Mb:=s9.2;have hct:ct=0\/ct=1\/ct=2:=by have:=s9.1;simp only at this;omega
   simp only at Mb;rw[rH]at up;have gi:cN[i]?.getD ⟨0,0⟩=⟨ct,cv⟩:=by rw[aaJ il,rH];rfl
   obtain⟨xs,hxs⟩: ∃q,gP aa aq ae cN i=q:=⟨_,rfl⟩;rw[hxs]at HO up len;rcases HO with⟨e0,j10⟩|⟨e0,id,b1,b2,j10,fa⟩
   ·simp[aaE,f3,f4,f5,f6,f11,f18,f19,h0,h1,h2,n0,gZ,hr,hL,i8,Ym,rH,Mb,hct,gS,j10];refine⟨?_,by omega⟩;rw[up,e0];exact .inr ⟨by simp,S.n+13,by omega,by omega,rfl,by simp[aR,Canon.bS]⟩
   ·have ni: ∀j,¬id=S.n+j:=fun j=>by omega
    simp[aaE,f3,f4,f5,f6,f11,f18,f19,h0,h1,h2,n0,gZ,hr,hL,i8,Ym,rH,Mb,hct,gS,j10,fa];refine⟨⟨by omega,by omega⟩,fun _ _=>⟨⟨by omega,by omega,by omega⟩,?_,by omega⟩⟩;rw[up];exact .inr ⟨by simp,S.n+13,by omega,by omega,by simp,by simp[aR,Canon.bS]⟩
  ·have hei:i=(dh call).length:=by omega
   subst hei;by_cases hbc:my call=1
   case neg=>
    have wT:=eq_false hbc;simp[aaE,f3,f11,f18,f19,wT];exact⟨_,_,rfl,(HO.mono (by omega) fun i a b=>by simp).lower (by omega),.inl ⟨rfl,rfl⟩⟩
   have wT:=eq_true hbc;obtain⟨w1,w2,w3,w4⟩:=hb hbc;obtain⟨a1,rfl⟩:=aaG w1;obtain⟨O5,rfl⟩:=aaG w2;have n16:O5<=16:=by omega
   have sU:IntKind.i64.wrap (a1:Int)=a1:=wrap_i64 (by omega);have H8:IntKind.i64.wrap (O5:Int)=O5:=wrap_i64 (by omega);have hMP:ud ⟨ak,ah⟩:=hM.mem;simp[aaE,f3,f6,f18,f19,h2,wT,hr,e1,e3,sU,H8];obtain⟨m0,hm0⟩: ∃q,S.n=q:=⟨_,rfl⟩;rw[hm0]at HO hn;refine lW (fun j S'=>(S'.f 4= .ptr k 0 0/\S'.f 5= .ptr (k+1) 0 0/\S'.f 13=(a1:Int)/\S'.f 44=(O5:Int)/\S'.f 45=(j:Int))/\
    (S'.h k=some ⟨3,[KKQ ax ae ay],true⟩/\S'.h (k+1)=some ⟨5,[KKY aa aq ak ah au],true⟩)/\
    Dg Canon.e 4 (k+3) (gP aa aq ae cN (dh call).length) (S'.f 10) S'.h m0/\Dg Canon.e 4 m0 (mq aa aq ae ⟨ak,ah⟩ a1 j) (S'.f 11) S'.h S'.n/\m0<=S'.n) O5 ?_ 0 (by simp) ?_
   ·rintro j S' hj ⟨⟨j4,j5,j13,j44,j45⟩,⟨g0,g1'⟩,HA,HD,Ps⟩;have n0': ∀i,¬k=S'.n+i:=fun i=>by omega
    have Yo: ∀i,¬k+1=S'.n+i:=fun i=>by omega
    have beb:=tM aa aq ae ⟨ak,ah⟩ a1 j;by_cases L6:j<O5
    ·have up:=G5 aa aq ae ⟨ak,ah⟩ a1 j;obtain⟨qa,hqa⟩: ∃q:Nat,a1+j=q:=⟨_,rfl⟩;rw[hqa]at up;have haq:0<=(qa:Int)/\(qa:Int)<512:=by omega
     have uD:=mZ j (by omega);have Kd:IntKind.i64.wrap ((a1:Int)+j)=(qa:Int):=by rw[wrap_i64 (by omega)];omega
     have hlk:=ed.look hM qa;have agl:=NO ak ah (qa:Int) hMP haq;rw[aaH]at agl;obtain⟨⟨ct,cv⟩,rH⟩: ∃x,look ⟨ak,ah⟩ qa=x:=⟨_,rfl⟩;rw[rH]at up hlk agl;have Mb:=hlk.2;have hct:ct=0\/ct=1\/ct=2:=by have:=hlk.1;simp only at this;omega
     try simp only at Mb
     try simp only at agl
     obtain⟨xs,hxs⟩: ∃q,mq aa aq ae ⟨ak,ah⟩ a1 j=q:=⟨_,rfl⟩;rw[hxs]at HD up beb;rcases HD with⟨e0,j11⟩|⟨e0,id,b1,b2,j11,fa⟩
     ·simp[aaE,j4,j5,j13,j44,j45,g0,g1',n0',L6,hL,Kd,uD,agl,Mb,hct,j11];refine⟨?_,?_,by omega⟩
      ·exact HA.mono (aaI _) fun i a b=>by
        have n4: ∀j,¬i=S'.n+j:=fun j=>by omega
        simp[aR,n4]
      ·rw[up,e0];exact .inr ⟨by simp,S'.n+23,by omega,by omega,rfl,by simp[aR,Canon.bS]⟩
     ·have ni: ∀j,¬id=S'.n+j:=fun j=>by omega
      simp[aaE,j4,j5,j13,j44,j45,g0,g1',n0',L6,hL,Kd,uD,agl,Mb,hct,j11,fa,ni];refine⟨⟨by omega,by omega⟩,fun _ _=>⟨⟨by omega,by omega⟩,?_,?_,by omega⟩⟩
      ·exact HA.mono (aaI _) fun i a b=>by
        have n4: ∀j,¬i=S'.n+j:=fun j=>by omega
        have n5: ¬i=id:=by omega
        simp[aR,n4,n5]
      ·rw[up];exact .inr ⟨by simp,S'.n+23,by omega,by omega,by simp,by simp[aR,Canon.bS]⟩
    ·have hej:j=O5:=by omega
     subst hej;simp[aaE,j44,j45];exact⟨_,_,rfl,(HA.mono (by omega) fun i a b=>by simp).lower (by omega),(HD.mono (by omega) fun i a b=>by simp).lower (by omega)⟩
   ·simp;exact⟨⟨f4,f5⟩,⟨h0,h1⟩,HO,.inl ⟨Sq ..,f11⟩,by omega⟩
 ·simp;exact .inl ⟨z,rfl⟩
def Bl(l:List Canon):kO (some ⟨4,l.map Canon.e,false⟩)=some ⟨4,l.map Canon.e,false⟩:=by
 show(if(l.map Canon.e).all V.Mh=true then some (Ob.mk 4 (l.map Canon.e) false) else none)=_;rw[if_pos];rw[aaP];intro x hx;obtain⟨c, -,rfl⟩:=List.mem_map.1 hx;rfl
@[simp]def UC(ax:List Instr)(ae:List Int)(ay:List (List Int))(aa:List Int)(aq:Int)(ak:List Cell)(ah:List cw)(au:List Thread)(t n:Int)(hr:As (aO.mk (Layout.mk aa aq) (aF.mk ak ah) au))(hv:jU (Prog.mk ax ae ay) (aO.mk (Layout.mk aa aq) (aF.mk ak ah) au)=true)(ht:0<=t/\t<4)(hn:1<=n/\n<=64):bU X 74 [KKQ ax ae ay,KKY aa aq ak ah au,.int .i64 t,.int .i64 n]=some (.dP [KKK ((gN (Prog.mk ax ae ay) (aO.mk (Layout.mk aa aq) (aF.mk ak ah) au) t n).1),KKW ((gN (Prog.mk ax ae ay) (aO.mk (Layout.mk aa aq) (aF.mk ak ah) au) t n).2.1),.int .i64 0]):=by
 refine aaA ?_;have e:gN (Prog.mk ax ae ay) (aO.mk (Layout.mk aa aq) (aF.mk ak ah) au) t n=((mr (Prog.mk ax ae ay) (dQ (Prog.mk ax ae ay) (aO.mk (Layout.mk aa aq) (aF.mk ak ah) au) t.toNat n).1 t.toNat (dQ (Prog.mk ax ae ay) (aO.mk (Layout.mk aa aq) (aF.mk ak ah) au) t.toNat n).2).1,(mr (Prog.mk ax ae ay) (dQ (Prog.mk ax ae ay) (aO.mk (Layout.mk aa aq) (aF.mk ak ah) au) t.toNat n).1 t.toNat (dQ (Prog.mk ax ae ay) (aO.mk (Layout.mk aa aq) (aF.mk ak ah) au) t.toNat n).2).2,0):=if_pos ⟨hv,ht,hn⟩;rw[e];have rK:=aga ax ae ay aa aq ak ah au t n hr hv ht hn;obtain⟨k,rfl⟩:=aaG ht.1;have k4:k<4:=by omega
 have E3:(k:Int)<4:=by omega
 have MG:=yV hr hv;simp only[aaH]at rK⊢;have SG:(dQ (Prog.mk ax ae ay) (aO.mk (Layout.mk aa aq) (aF.mk ak ah) au) k n).2=3/\cT (Prog.mk ax ae ay) (1099511627776+n) (dQ (Prog.mk ax ae ay) (aO.mk (Layout.mk aa aq) (aF.mk ak ah) au) k n).1\/A5 (Prog.mk ax ae ay) (1099511627776+n) k (dQ (Prog.mk ax ae ay) (aO.mk (Layout.mk aa aq) (aF.mk ak ah) au) k n):=by
  by_cases hs:(bV (aO.mk (Layout.mk aa aq) (aF.mk ak ah) au) k).state=1
  ·exact .inr (C9 MG k4 hn.1 hs)
  ·have e1:dQ (Prog.mk ax ae ay) (aO.mk (Layout.mk aa aq) (aF.mk ak ah) au) k n=((aO.mk (Layout.mk aa aq) (aF.mk ak ah) au),3):=by unfold dQ;exact if_neg hs
   rw[e1];exact .inl ⟨rfl,MG.mono (by omega)⟩
 obtain⟨⟨⟨bs,key⟩,⟨cs,ls⟩,ts⟩,s,hms⟩: ∃mm s,dQ (Prog.mk ax ae ay) (aO.mk (Layout.mk aa aq) (aF.mk ak ah) au) k n=(mm,s):=⟨_,_,rfl⟩;rw[hms]at rK SG⊢;simp only at rK SG⊢;have HG:cT (Prog.mk ax ae ay) (1099511627776+n) ⟨⟨bs,key⟩,⟨cs,ls⟩,ts⟩:=by
  rcases SG with h|h
  ·exact h.2
  ·exact h.Oi
 have hl:ts.length=4:=HG.len;have kl:k<ts.length:=by omega
 have hx:bV ⟨⟨bs,key⟩,⟨cs,ls⟩,ts⟩ k=ts[k]:=iq kl;have oT:=HG.pe k kl;simp only at oT;obtain⟨⟨st,rg,pc,co,ha,sa,tr,cd⟩,pH⟩: ∃x,ts[k]=x:=⟨_,rfl⟩;rw[pH]at hx oT;have h8:rg.length=8:=oT.bp;have tG: ∀(f:Thread->V),List.take 4 (ts.map f)=ts.map f:=fun f=>aZ (by simp;omega);have Ss: ∀(f:Thread->Option V),List.take 4 (ts.map f)=ts.map f:=fun f=>aZ (by simp;omega);by_cases s1:s=1
 case neg=>
  have e2:mr (Prog.mk ax ae ay) ⟨⟨bs,key⟩,⟨cs,ls⟩,ts⟩ k s=(⟨⟨bs,key⟩,⟨cs,ls⟩,ts⟩,⟨k,s,if s=2 then tr else 0,co,pc,0,[],[]⟩):=by
   unfold mr;rw[if_neg s1,hx]
  rw[e2];by_cases s2:s=2
  ·subst s2;simp[rK,tG,hl,k4,E3,pH]
  ·simp[rK,tG,hl,k4,E3,pH,s1,s2]
 subst s1;have SG1:A5 (Prog.mk ax ae ay) (1099511627776+n) k (⟨⟨bs,key⟩,⟨cs,ls⟩,ts⟩,1):=by
  rcases SG with h|h
  ·exact absurd h.1 (by decide)
  ·exact h
 obtain⟨c1,c2,c3,c4⟩:=SG1.calls rfl;simp only[hx]at c1 c2 c3 c4;have hL:=HG.lay;have Yi:ax.length<=64:=HG.prog.rp;have FH:=oT.cells.Sg;simp only at hL FH;have L9:ts.getD (k:Int).toNat cn=⟨st,rg,pc,co,ha,sa,tr,cd⟩:=by rw[aaH];simp[List.getD,kl,pH]
 obtain⟨j,hj⟩: ∃j:Nat,pc-1=j:=⟨(pc-1).toNat,by omega⟩;have tI:j<ax.length:=by omega
 have R8:(j:Int)<ax.length:=by omega
 have yo:kU ax pc=ax[j]:=by unfold kU;rw[hj];simp[List.getD,tI]
 have hwp:IntKind.i64.wrap (pc-1)=j:=by rw[hj];exact wrap_i64 (by omega)
 have hI:=HG.prog.A3 (p:=(Prog.mk ax ae ay)) tI;simp only at hI;rw[yo]at c4;have W3:0<=(ax[j]).eu/\(ax[j]).eu<=15:=⟨hI.eu.1,hI.sys c4⟩;have PB:=EF ax ae ay bs key cs ls ts k hl ⟨by omega,E3⟩ hL (by omega) (by rw[L9];exact h8) (by rw[L9];exact FH) (by rw[L9];exact⟨c2,c3⟩) (by rw[L9];simp only;rw[yo];exact c4) (by rw[L9];simp only;rw[yo];exact W3) (by rw[L9];have:=oT.pc;simp only at this⊢;omega);rw[L9]at PB;simp only[yo]at PB;obtain⟨c,s9⟩: ∃c,(ax[j]).eu=c:=⟨_,rfl⟩;rw[s9]at PB W3;have hco:pQ (Prog.mk ax ae ay) ⟨st,rg,pc,co,ha,sa,tr,cd⟩=c:=by unfold pQ;simp only;rw[yo,s9]
 obtain⟨w,hw⟩: ∃w,vE bs ae ax.length c rg=w:=⟨_,rfl⟩;rw[hw]at PB;have hwy:G6 (Prog.mk ax ae ay) ⟨⟨bs,key⟩,⟨cs,ls⟩,ts⟩ ⟨st,rg,pc,co,ha,sa,tr,cd⟩=w:=by unfold G6;rw[hco];exact hw
 by_cases w0:w=0
 case neg=>
  have e2:mr (Prog.mk ax ae ay) ⟨⟨bs,key⟩,⟨cs,ls⟩,ts⟩ k 1=(⟨⟨bs,key⟩,⟨cs,ls⟩,ts.set k (iV ⟨st,rg,pc,co,ha,sa,tr,cd⟩ w)⟩,⟨k,2,w,co,pc,0,[],[]⟩):=by
   unfold mr;rw[if_pos rfl,hx,hwy,if_neg w0];rfl
  rw[e2];obtain⟨Cs,EB⟩: ∃Cs,ts.set k (iV ⟨st,rg,pc,co,ha,sa,tr,cd⟩ w)=Cs:=⟨_,rfl⟩;have ya:Cs.length=4:=by rw[<-EB];simp[hl]
  have Lw: ∀(f:Thread->V),List.take 4 (Cs.map f)=Cs.map f:=fun f=>aZ (by simp;omega);have alx: ∀(f:Thread->Option V),List.take 4 (Cs.map f)=Cs.map f:=fun f=>aZ (by simp;omega);have lh:(ts.map Thread.e).set k (V.agg [.int .i64 4,rg,.int .i64 pc,.int .i64 co,.int .i64 ha,.int .i64 sa,.int .i64 w,.int .u16 0])=Cs.map Thread.e:=by rw[<-EB,abO];rfl
  have aly:(Thread.e ⟨st,rg,pc,co,ha,sa,tr,cd⟩).put 0 (V.agg [.int .i64 4,rg,.int .i64 pc,.int .i64 co,.int .i64 ha,.int .i64 sa,.int .i64 w,.int .u16 0])=V.agg [.int .i64 4,rg,.int .i64 pc,.int .i64 co,.int .i64 ha,.int .i64 sa,.int .i64 w,.int .u16 0]:=rfl;have k2l:k<Cs.length:=by omega
  have a4y:Cs[k]=⟨4,rg,pc,co,ha,sa,w,0⟩:=by simp only[<-EB];rw[aco];rfl
  rw[EB];simp[rK,tG,Lw,hl,ya,k4,E3,pH,h8,PB,w0,lh,aly,a4y]
 subst w0;obtain⟨hf,Zu⟩:=zf hw;have k3:=pb W3;have e2:mr (Prog.mk ax ae ay) ⟨⟨bs,key⟩,⟨cs,ls⟩,ts⟩ k 1=(⟨⟨bs,key⟩,⟨cs,ls⟩,ts⟩,⟨k,1,0,co,pc,c,gP bs key ae rg (dh c).length,if my c=1 then mq bs key ae ⟨cs,ls⟩ (rg.getD 1 ⟨0,0⟩).val.toNat (rg.getD 2 ⟨0,0⟩).val.toNat else []⟩):=by
  unfold mr;rw[if_pos rfl,hx,hwy,if_pos rfl];unfold Lv;simp only[hco]
 rw[e2];have Cn:=oT.pc;simp only at Cn;have Yx:DU ax pc=c:=by rw[Oa ⟨c2,c3⟩ (by rw[yo];exact c4),yo,s9]
 have pS:=Gx ax ae ay st rg pc co ha sa tr cd (by omega) Cn;rw[Yx]at pS;obtain⟨va,ha,ka,eak,vA,vD,rfl,HA,HD⟩:=anm ax ae ay bs key cs ls ts st rg pc co ha sa tr cd c 70 hL HG.mem h8 oT.cells W3 (fun hb=>by
  have H7:=Zu (by omega);obtain⟨_,w2,w3,w4⟩:=Ke hL H7.1;exact⟨w3,w2,H7.2,w4⟩)
 obtain⟨A,hA⟩: ∃A,gP bs key ae rg (dh c).length=A:=⟨_,rfl⟩;obtain⟨D,hD⟩: ∃D,(if my c=1 then mq bs key ae ⟨cs,ls⟩ (rg.getD 1 ⟨0,0⟩).val.toNat (rg.getD 2 ⟨0,0⟩).val.toNat else [])=D:=⟨_,rfl⟩;rw[hA]at HA⊢;rw[hD]at HD⊢;have u0:(V.dP [V.sl true [],V.sl true []]).pu=true:=rfl;have u1: ∀a b,(V.dP [V.sl true [],V.cx a 0 b]).pu=true:=fun _ _=>rfl;have u2: ∀a b,(V.dP [V.cx a 0 b,V.sl true []]).pu=true:=fun _ _=>rfl;have u3: ∀a b c d,(V.dP [V.cx a 0 b,V.cx c 0 d]).pu=true:=fun _ _ _ _=>rfl;rcases HA with⟨rfl,rfl⟩|⟨a0,ia,a1,a2,rfl,a4⟩
 ·rcases HD with⟨rfl,rfl⟩|⟨d0,id,d1,d2,rfl,d4⟩
  ·simp[rK,tG,hl,k4,E3,pH,PB,pS,eak,u0]
  ·have dl: ¬id<70:=by omega
   have dj: ∀j,j<70->(id=j)=False:=fun j _=>by simp;omega
   simp[rK,tG,hl,k4,E3,pH,PB,pS,eak,u1,Bl,d4,dl,dj]
 ·have al: ¬ia<70:=by omega
  have aj: ∀j,j<70->(ia=j)=False:=fun j _=>by simp;omega
  rcases HD with⟨rfl,rfl⟩|⟨d0,id,d1,d2,rfl,d4⟩
  ·simp[rK,tG,hl,k4,E3,pH,PB,pS,eak,u2,Bl,a4,al,aj]
  ·have dl: ¬id<70:=by omega
   have dj: ∀j,j<70->(id=j)=False:=fun j _=>by simp;omega
   simp[rK,tG,hl,k4,E3,pH,PB,pS,eak,u3,Bl,a4,al,aj,d4,dl,dj]
end Go.Proofs.YtdngefmliibcgaaGreat
