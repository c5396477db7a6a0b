import Derived.Calls
set_option linter.all false
set_option maxRecDepth 20000
set_option maxHeartbeats 0
namespace Go.Abs
open Go
section
variable{p:Prop}
def ab(h:p:=by omega):=h
def ai(h:p:=by simp):=h
def aj(h:p:=by grind):=h
def al(h:p:=by simp[bB]):=h
def aA(h:p:=by simp;omega):=h
def aB(h:p:=by simp only;omega):=h
def aC(h:p:=by simp only[cx,cE,cU]):=h
def aF(h:p:=by decide+kernel):=h
def aG(h:p:=by decide):=h
def aI(h:p:=by cases x;cases y;simp):=h
def aL(h:p:=by and_intros<;>first|rfl|exact fun _=>rfl):=h
def aO(h:p:=by simp only[aS]at h;subst h;simp[dX]):=h
def aQ(h:p:=by simp at h;omega):=h
def aT(h:p:=by simp[h,Op.operands]):=h
def aU(h:p:=by first|omega|(simp only;omega)):=h
def aV(h:p:=by grind [bB]):=h
def aX(h:p:=by rw[<-s];simp[q]):=h
def aY(h:p:=by unfold tH;simp only[Q,v,H,t]):=h
def a_(h:p:=by simp[dX]):=h
def bd(h:p:=by simp[e,Op.operands]):=h
def bf(h:p:=by simp[List.getD,S]):=h
def bg(h:p:=by rw[<-s];simp):=h
def bh(h:p:=by rw[<-List.map_set,sH o G]):=h
def bj(h:p:=by intro y G;subst G;simp[e,Op.operands]):=h
def bk(h:p:=by unfold oB;rw[<-h];rfl):=h
def bm(h:p:=by rw[<-s];rfl):=h
def bn(h:p:=by simpa using h):=h
def bq(h:p:=by have:=hx.len;simp only at this;omega):=h
def bu(h:p:=by simp_all):=h
def bx(h:p:=by simp only[nM,v,H,t]):=h
def bz(h:p:=by simp[f,Op.operands]):=h
def bA(h:p:=by simp at r;omega):=h
def bC(h:p:=by rw[e]):=h
def bF(h:p:=by cases h):=h
def bG(h:p:=by have:=H.lt.2.2.1;omega):=h
def bM(h:p:=by rw[H];exact S):=h
def bN(h:p:=by have:=Q h k;omega):=h
def bR(h:p:=by intro y G;subst G;simp[f,Op.operands]):=h
def bX(h:p:=by have:=H.lt.2.1;omega):=h
def bY(h:p:=by simp[bB,W]):=h
def b0(h:p:=by simpa[dX] using h):=h
def b6(h:p:=by simp only[h]):=h
def b7(h:p:=by cases q):=h
def b_(h:p:=by simp[bB,qA]):=h
def cc(h:p:=by simp[bB,hc]):=h
def cf(h:p:=by simpa[oG] using h):=h
def ch(h:p:=by simp[bB];intro e;omega):=h
def cj(h:p:=by rw[H.len];exact S):=h
def ck(h:p:=by have:=r m g;omega):=h
def cp(h:p:=by unfold iv;grind):=h
def cq(h:p:=by simp[bB,fd.cN]):=h
def cv(h:p:=by simp only[maxLen];omega):=h
def cA(h:p:=by simp only[cx,cE]):=h
def cM(h:p:=by have:=iS.2.2.2 j hj;omega):=h
def cS(h:p:=by simp[bB,A]):=h
def c0(h:p:=by rw[Es];rfl):=h
def c5(h:p:=by rw[hv]at B;simp only[cy,fQ,gc.mk.injEq]at B;exact B.2.1.2.2.2.2.2.2.1.symm):=h
def c6(h:p:=by simp[hl]):=h
def c_(h:p:=by simp[bB,hb]):=h
def de(h:p:=by have:=(H i j).2;omega):=h
def dg(h:p:=by simp[flat,fW]):=h
def dh(h:p:=by simpa using K):=h
def dj(h:p:=by simp only[IntKind.wrap,IntKind.signed,IntKind.bits,xI]<;>grind):=h
def dp(h:p:=by rw[h]):=h
def dq(h:p:=by rw[M.ge];omega):=h
def dr(h:p:=by simp[iR,hk,t0,hc]):=h
def dt(h:p:=by obtain⟨_,_,G,_⟩:=hv h1 j f;rw[G.Ad tn nr];simp only[mQ]):=h
def du(h:p:=by rw[lay];exact nh):=h
def dE(h:p:=by obtain⟨_,_,G,_⟩:=l h1 j z;rw[G.Ad tn nr];simp only[mQ]):=h
def dG(h:p:=by rw[Q.call,Q.e];rfl):=h
def dH(h:p:=by subst h;rfl):=h
def dR(h:p:=by simp[iR,q,t0,v]):=h
def dS(h:p:=by simp[bB,Y]):=h
def dU(h:p:=by simpa[nK,Ur] using B.one _):=h
def dZ(h:p:=by simp[ey]):=h
def d0(h:p:=by rw[fw,ik];omega):=h
def d6(h:p:=by rw[hl];exact G):=h
def d7(h:p:=by unfold rW;rw[if_neg f3,if_neg fun h=>h5 h.1,n1]):=h
def d8(h:p:=by unfold dB;exact if_neg hs):=h
def d9(h:p:=by simp[f,Op.operands,Call.operands]at hx⊢;grind):=h
def d_(h:p:=by rwa[kI]):=h
def ea(h:p:=by rw[<-an.1,D];rfl):=h
def eb(h:p:=by have:=h.2.2.2.2;simp only[G]at this;exact this):=h
def ec(h:p:=by rw[ik,he]):=h
def ee(h:p:=by split<;>omega):=h
def ef(h:p:=by simp[dI,List.getD,h0,n]):=h
def eg(h:p:=by simp[bB,f2]):=h
def ei(h:p:=by simp at g;omega):=h
def ej(h:p:=by rw[put_defers];omega):=h
def ek(h:p:=by rw[un]):=h
def en(h:p:=by rw[o];decide):=h
def eo(h:p:=by unfold eY;rw[if_neg (by rw[Y];omega),g,q];rfl):=h
def er(h:p:=by simp[h1]):=h
def ew(h:p:=by rw[h1];exact(List.getElem?_eq_some_iff.1 B).1):=h
def eB(h:p:=by have:=bP.2;have:=bP.1;simp only at*;omega):=h
def eC(h:p:=by simpa using h1):=h
def eD(h:p:=by simp[vE]):=h
def eE(h:p:=by simp only[List.getD,rk bp,tj];exact aq):=h
def eF(h:p:=by intro y G;simp only[e,Op.operands];grind):=h
def eG(h:p:=by simp[bB,f]):=h
def eK(h:p:=by simp only[sr];omega):=h
def eM(h:p:=by rw[a _ (j i q).2.1 (j i q).2.2.1,(j i q).1]):=h
def eR(h:p:=by have:=M.2;have:=M.1;simp only at*;omega):=h
def eT(h:p:=by simp[l]):=h
def eV(h:p:=by simp[fX,jumps];omega):=h
def eW(h:p:=by rw[l];omega):=h
def e_(h:p:=by rw[World.cell?_of_block (E.Nx b m)];omega):=h
def fa(h:p:=by obtain⟨_,_,G,_⟩:=hv h1 j f;exact G.lq):=h
def fb(h:p:=by have:=M.mem.ge;simp only at this l;omega):=h
def fc(h:p:=by have h1:=h.2.2.2.2.1;rw[hr]at h1;cases h1):=h
def fe(h:p:=by cases d<;>rfl):=h
def fh(h:p:=by simp[H,Op.operands,Call.operands,hl]):=h
def fi(h:p:=by obtain⟨_,_,G,_⟩:=l h1 j z;exact G.lq):=h
def fk(h:p:=by unfold Dm;split<;>(try split)<;>omega):=h
def fl(h:p:=by simp[h,Op.operands,Call.operands,B]):=h
def fo(h:p:=by simp[f,Op.operands,Call.operands,L]):=h
def fs(h:p:=by simp only[xD];omega):=h
def fB(h:p:=by rw[q]at h;cases h.1):=h
def fC(h:p:=by rw[e];split<;>omega):=h
def fE(h:p:=by rw[J2];rfl):=h
def fH(h:p:=by assumption):=h
def fK(h:p:=by simp[len]):=h
def fL(h:p:=by simp[iT]):=h
def fS(h:p:=by simp[f,Op.operands,Call.operands]):=h
def fT(h:p:=by intro h;simp[mj,h]):=h
def fY(h:p:=by unfold gS;rw[decide_eq_false t0];rfl):=h
def fZ(h:p:=by rw[h1];simp only;rw[hi];exact fv):=h
def f0(h:p:=by have:=bP.1;simp only at this;omega):=h
def f1(h:p:=by unfold kq;rw[hj];simp[List.getD,cQ]):=h
def f5(h:p:=by simp[iR,hk,t0]):=h
def f_(h:p:=by simp[fW]):=h
def ga(h:p:=by simp[fQ]):=h
def gb(h:p:=by simp[bB,he]):=h
def gd(h:p:=by simp[bB,ay]):=h
def gf(h:p:=by simp[Op.operands]at hx⊢;grind):=h
def gg(h:p:=by simp[List.getD,y]):=h
def gi(h:p:=by simp[List.getD,k]):=h
def gj(h:p:=by rw[hb];unfold iF;simp only[hl]):=h
def gk(h:p:=by have:=bV.2;simp only at this;omega):=h
def gl(h:p:=by simpa using W):=h
def gm(h:p:=by simp[iR,q,t0]):=h
def gn(h:p:=by simp;exact fun e=>a2.2.2.1 e.symm):=h
def gp(h:p:=by rw[<-z];simp[bB]):=h
def gu(h:p:=by intro h;simp[mj]at I⊢;simp[I,h]):=h
def gv(h:p:=by simp[bB,o]):=h
def gw(h:p:=by simp[bB,K]):=h
def gx(h:p:=by simp[bB,H]):=h
def gz(h:p:=by simp[bB,C]):=h
def gB(h:p:=by simp[bB,B]):=h
def gC(h:p:=by unfold sE;rw[i];split<;>omega):=h
def gD(h:p:=by unfold gZ;grind):=h
def gE(h:p:=by unfold Nd;grind):=h
def gJ(h:p:=by unfold Be at hx⊢;rwa[h1]at hx):=h
def gL(h:p:=by rw[rf];simp_all):=h
def gO(h:p:=by rw[ik];omega):=h
def gQ(h:p:=by rw[CU];omega):=h
def gR(h:p:=by rw[<-Nat.add_mul];congr 1;omega):=h
def gT(h:p:=by rfl):=h
def gW(h:p:=by simpa[Op.operands] using h):=h
def g0(h:p:=by rw[q.1]at T;simpa using T.symm):=h
def g6(h:p:=by rw[I,W,X7,show u.getD n qR=u[n] from bf,l];simp):=h
def g7(h:p:=by rw[wrap_i64 ab];omega):=h
def g8(h:p:=by rw[v0 ab];omega):=h
def g_(h:p:=by rcases Bd (c:=q.call) ab with h|h|h|h<;>rw[h]<;>rfl):=h
def hD(h:p:=by rw[Fp ab];omega):=h
def hF(h:p:=by unfold ot;rw[if_neg ai,if_neg ai,if_neg ai,if_pos rfl];simp[tJ,Z,p,O,D]):=h
def hG(h:p:=by rcases g2 j hj with e|e;exact .inl e;exact .inr ab):=h
def hH(h:p:=by rw[hj];exact wrap_i64 ab):=h
def hO(h:p:=by rcases g2 j r with e|e;exact .inl e;exact .inr ab):=h
def hP(h:p:=by rcases E j hj with e|e;exact .inl e;exact .inr ab):=h
def hQ(h:p:=by rcases D j hj with e|e;exact .inl e;exact .inr ab):=h
def hU(h:p:=by have:=(H.mono (k':=k+j) ab z).mem;rwa[hl]at this):=h
def hV(h:p:=by unfold ot;rw[if_neg ai,if_pos rfl,Q,T];rfl):=h
def hW(h:p:=by rw[if_neg ab]):=h
def hZ(h:p:=by rw[u _ _ _ _ ab,J];exact H.at_.cells):=h
def h7(h:p:=by have:=gF Q k (n:=4) ab;exact wrap_i64 ab):=h
def h9(h:p:=by rw[(f h1 j z).2.2 _ ab,z _ ah];exact u):=h
def ib(h:p:=by rw[bB,if_neg ab]):=h
def ic(h:p:=by rw[(f h1 j z).2.2 _ ab,z _ ab,hT]):=h
def i9(h:p:=by all_goals ((repeat' (first|apply And.intro|intro _))<;>first|omega|rfl)):=h
def i_(h:p:=by unfold joinedFacts;exact(cY (cY (cY (cY (cY (cY (cY (cY (cY (cY (cY (cY (cY (cY (cY (cY (cY (cY (cY (cY (cY (cY (cY (cY (cY (cY (cY (cY (cY (cY (cY a0 EL) Uv) a1) a2) a3) L3) a4) L4) a5) a6) a7) a8) a9) SY) s5) s2) sS) sJ) te) td) tc) AB) AA) heard) L5) Am) Al) Ab) Aa) z') z9)):=h
def jc(h:p:=by all_goals ((repeat' apply And.intro)<;>first|omega|rfl)):=h
def jg(h:p:=by all_goals ((repeat' apply And.intro)<;>first|omega|rfl|exact o)):=h
def jh(h:p:=by rcases ‹i=0\/i=1\/i=2\/i=3› with rfl|rfl|rfl|rfl<;>rcases ‹j=0\/j=1\/j=2\/j=3› with rfl|rfl|rfl|rfl<;>first|(exact absurd rfl l)|(simp;omega)):=h
def jj(h:p:=by simp[A,F,O,U,m,B,k,f,C,E,L,T,j,s,z,n,Z,q,o,hb,G,aw,K,l];refine⟨al,⟨al,al,al,al,al,bY⟩,rfl⟩):=h
def jl(h:p:=by have K:=A5 (aK:=b) (key:=key) (ax:=a) bL;have len:=ry (aK:=b) (key:=key) (ax:=a) (bK:=r) (i:=i) ab;obtain⟨⟨ct,aJ⟩,J⟩: ∃x,r[i]=x:=⟨_,rfl⟩;have h2:=(J▸he.at bL).2;simp only at h2;rw[J]at K;simp[dN,iO,cz,H,bc,hE,J,hL,h2,ac.cN,K,len];all_goals ((repeat' (first|apply And.intro|intro _))<;>first|omega|rfl|exact bQ fK)):=h
def jC(h:p:=by have hz:=fq.look I.mem M;simp only at hz;obtain⟨⟨ct,aJ⟩,J⟩: ∃x,look ⟨cs,l⟩ M=x:=⟨_,rfl⟩;rw[J]at K hz;have h2:=hz.2;simp only at h2;have bW:=yy cs l (M:Int) hM S';rw[X7,J]at bW;simp[mH,bP,g3,H,e1,ac.cN,bU,h5,bW,hL,h2,K,len];all_goals ((repeat' (first|apply And.intro|intro _))<;>first|omega|rfl|exact bQ fK)):=h
def jF(h:p:=by simp;refine⟨al,⟨al,al,al,al,al,b_⟩,rfl⟩):=h
def jP(h:p:=by exact⟨f,L,kQ _ _ _,.nil _,.inl rfl,fun h=>ab,.inr (.inl ⟨rfl,rfl⟩),fun h=>ab⟩):=h
def jQ(h:p:=by all_goals ((repeat' apply And.intro)<;>first|omega|rfl|exact A)):=h
def jR(h:p:=by simp(maxSteps:=10000000)(maxDischargeDepth:=30)[d,A,C,E,P,L,l,W,m,y,z,hu.cN,ph,lQ]):=h
def jS(h:p:=by rcases Y with h|h<;>simp(maxSteps:=10000000)(maxDischargeDepth:=30)[d,A,C,E,P,L,l,W,m,y,z,h,hu.cN,ph,lQ]):=h
def j0(h:p:=by simp only[aS,cy,true_and]at h;subst h;cases v<;>first|exact⟨rfl,rfl⟩|simp[Cell.okWide,Cell.ok,u]at i):=h
def j1(h:p:=by simp[h1,k1,ow,kS,r,z,I,q,hr,f2,f3,au,aq,w,f,he,U,T,B,o,A,M,E,y,hp,cQ,ak,g4,R,hg];rw[<-u,<-n _ ab];rfl):=h
def j2(h:p:=by simp[A,F,O,U,m,B,k,f,C,E,L,T,j,s,z,n,Z,q,o,hb,K,l];refine⟨al,⟨al,al,al,al,al,bY⟩,rfl⟩):=h
def j3(h:p:=by all_goals ((repeat' (first|apply And.intro|intro _))<;>first|omega|exact px c|rfl)):=h
def j4(h:p:=by rcases ‹i=0\/i=1\/i=2› with rfl|rfl|rfl<;>rcases ‹j=0\/j=1\/j=2› with rfl|rfl|rfl<;>first|(exact absurd rfl l)|(simp;omega)):=h
def j7(h:p:=by cases ad<;>simp[Builtin.firstCells,loadCells,loadCellsFrom]):=h
def j8(h:p:=by have ci:=fun h k hx (ho:Cf k (N h k) hx)=>(C h k).2.2.2 hx ho 6;simp only[Nat.reduceAdd]at ci;have os: ∀(a:Nat) (h:bI),Cf a h h=True:=fun _ _=>eq_true fun _ _=>rfl;unfold ep;simp[-py,r,T,D,t,cl,ci,cb,os,qS]):=h
def j_(h:p:=by refine⟨_,_,_,ky 0 true,hY (X:=X) Tryz.func209 rfl rfl ?_,o,l,j,iY _ _,if_pos ai⟩;simp[v,w,j,B,P,J,ky]):=h
def ka(h:p:=by have:=t_ (sw hx);simp only[D5]at this;obtain⟨c,_,rfl⟩:=this;rfl):=h
def kb(h:p:=by exact⟨h,kQ _ _ _,.nil _,.inl rfl⟩):=h
def kc(h:p:=by obtain⟨s,hx,_,_,rfl,⟨b,rfl,f⟩,rfl⟩:=E e C;exact⟨b,hx⟩):=h
def kd(h:p:=by subst t;simp[-cr,h,h1,K,l,J,n,u]):=h
def kh(h:p:=by subst t;simp[-cr,h,h1,K,S,l,J,z,n]):=h
def kj(h:p:=by simp only[binOp,Sem.run_bind];rw[show Op.equal t (.bool _) (.bool _)=Op.equalIn (9999+1) t (.bool _) (.bool _) from rfl,run_equalIn_bool' w 9999 t _ _ S];rfl):=h
def kl(h:p:=by intro i hi e1 e2;have n0:=DE (va hi (JQ _ 11));simp only[bB,e1,e2,n0,if_false]):=h
def km(h:p:=by unfold rz kr at e;simp[dI,ky]at e;subst e;simp[A,F,O,U,m,B,f,C,E,L,T,j,s,z,n,hf]):=h
def ks(h:p:=by refine ij ?_;rcases OQ h with rfl|rfl|rfl|rfl|rfl|rfl|rfl|rfl|rfl|rfl|rfl|rfl|rfl|rfl|rfl|rfl|rfl|rfl|rfl|rfl|rfl|rfl|rfl|rfl|rfl;all_goals simp[iP]):=h
def kE(h:p:=by have e:dP (wn u a y) (w_ g B d F Z) t n=(eQ,ep,1):=if_neg C;have A:=Ps u a y g B d F Z t n hp aH hr C;rw[e];unfold eQ ep;unfold eQ at A;simp[A]):=h
def kF(h:p:=by exact absurd q.2 g6):=h
def kG(h:p:=by obtain⟨e1,e2⟩:=wi e;rw[e1,e2];have ff:dQ h1 (k+j) b vB C L T ids bH z:=H.mono ab f;exact⟨e,gK,ff.gt g1 d6 g2 g3,g1,fun j hj=>hG,g3⟩):=h
def kH(h:p:=by obtain⟨e1,e2⟩:=wi e;rw[e1,e2];have bp:dQ h1 (k+j) b vB C L T ids bH m:=H.mono ab z;exact⟨e,gK,bp.gt g1 d6 D g3,g1,fun j hj=>hQ,g3⟩):=h
def kO(h:p:=by rintro⟨o,v,h,h1,K⟩;simp only[aS]at h;subst h;exact⟨v,h1,K d rfl⟩):=h
def kR(h:p:=by exact .inr ⟨h0,R,ids,e,by rw[a _ k1.1 k1.2,g],ab,fun i q=>⟨eM,(j i q).2.1,by have:=(j i q).2.2.1;omega,(j i q).2.2.2⟩,s⟩):=h
def k5(h:p:=by rcases this with rfl|rfl|rfl|rfl<;>simp<;>omega):=h
def k6(h:p:=by simp[d,O,c, -List.all_eq_true];rw[yw c,f];refine⟨fun h1=>⟨fun K=>key ab,fun K=>by simp[C1,h1,K]⟩,fun h1=>key ab⟩):=h
def k8(h:p:=by rw[C]at h1;obtain⟨ad,cap,v,_⟩:=h1;simp only[aS]at h;subst h;simp[Builtin.len_,T,v,run_underlying b,goInt]):=h
def k_(h:p:=by simp[eJ];all_goals exact i9):=h
def la(h:p:=by refine ig.of H S (fQ x 3) (2) (P _ f5) (ip ?_);simp[X6,fU,q,Z,R,U,A,S,F,W,u,s,l,ct,nz,jW,J,a8,Y,D,N,I,O,M,t0];all_goals exact jc):=h
def lb(h:p:=by simp[X6,fU,kX,m,Y,R,g,z,t,W,jE,iq,G,a8,u,r,S,s,K,F,t0,v];all_goals exact jg):=h
def lf(h:p:=by refine lH.dD (3) aG gm (ip ?_);simp[X6,uo,kX,m,Y,R,g,z,t,W,G,a8,u,r,K,t0];all_goals exact jg):=h
def lj(h:p:=by refine tS ?_;obtain⟨a,b,c,d,rfl⟩:=JK q;have W:=hx 0 ai;have e:=hx 1 ai;have n:=hx 2 ai;have u:=hx 3 ai;simp at W e n u;simp[eJ,kS];all_goals exact i9):=h
def ll(h:p:=by simp[X6,fU,q,Z,R,U,A,S,F,W,u,s,l,ct,nz,jW,J,a8,Y,D,N,iO,I,O,M,hL,hh,bs,h3,hq,hf,c2,aa,hp];all_goals exact jc):=h
def lA(h:p:=by rename_i h;exact⟨sN _ _,rfl,fun _=>h⟩):=h
def lF(h:p:=by unfold iF;rw[show(aN.ce (w_ f k g F Z)).length=4 from l]):=h
def lN(h:p:=by simp only[bB,w1,w2,hf,aE,e9,l2,if_false];exact dN i p w):=h
def lT(h:p:=by refine ij ?_;simp):=h
def l0(h:p:=by rintro S ⟨d,f⟩;simp[d]):=h
def l4(h:p:=by obtain⟨_,_,_,_,_,g⟩:=f h1 j z;rw[g _ ab Z e3 (fun j hj=>(au.ni j hj).1) e4 hh,z _ ah];exact u):=h
def l8(h:p:=by subst t;simp[-cr,h,h1,K,l,J,n]):=h
def l_(h:p:=by obtain⟨a1,a2,a3,a4⟩:=l i q;rw[bB,if_neg ab,JV q];exact⟨by rw[f _ a2 a3 a4,a1],a2,ab,ab⟩):=h
def ma(h:p:=by obtain⟨rfl,rfl⟩:=h;exact A f w' r):=h
def mb(h:p:=by rcases mn h with rfl|rfl|rfl|rfl|rfl|rfl|rfl|rfl|rfl|rfl|rfl|rfl|rfl|rfl|rfl|rfl<;>simp[rL,dc]):=h
def mc(h:p:=by rcases mn h with rfl|rfl|rfl|rfl|rfl|rfl|rfl|rfl|rfl|rfl|rfl|rfl|rfl|rfl|rfl|rfl<;>simp[kv,dc]):=h
def ml(h:p:=by rename_i e E;simp only[X8,beq_iff_eq]at B;obtain⟨⟨⟨_,rfl⟩,U⟩,_⟩:=B;exact⟨E,U⟩):=h
def mv(h:p:=by have h1:n*1<=n*(X.ti (X.ti t).elem).size:=Nat.mul_le_mul_left _ T.pos;simp only[maxLen];omega):=h
def mx(h:p:=by exact List.all_eq_true.1 i c (t6 z)):=h
def mC(h:p:=by exact g (k+i) ab ab ab fun j hj=>cM):=h
def mG(h:p:=by rename_i h;rw[Sem.run_bind,run_underlying h];rfl):=h
def mN(h:p:=by simp[X6,fU,q,Z,R,U,A,S,F,W,u,s,l,jE,iq,J,a8,Y,D,N,ah,I,O,M,cz,t0,hc];all_goals exact jc):=h
def mR(h:p:=by simp[X6,fU,q,Z,R,U,A,S,F,W,u,s,l,jE,iq,J,a8,Y,D,N,ah,I,O,M,bp,t0,hc];all_goals exact jc):=h
def m4(h:p:=by simp(maxSteps:=10000000)(maxDischargeDepth:=30)[d,A,C,E,P,L,l,W,m,y,z,j,w,hu.cN,ph,lQ]):=h
def m6(h:p:=by simp(maxSteps:=10000000)(maxDischargeDepth:=30)[d,A,C,E,P,L,l,W,m,y,z,f,w,hu.cN,ph,lQ]):=h
def m8(h:p:=by subst t;simp[-cr,h,h1,K,l,J,n,u,B]):=h
def m_(h:p:=by subst t;simp[-cr,h,h1,K,l,J,n,q,u]):=h
def nb(h:p:=by cases iP jy 0<;>cases iP jy 1<;>cases iP jy 2<;>cases iP jy 3<;>cases jumps jy<;>grind):=h
def ng(h:p:=by simp only[cx,cE,cU]):=h
def nk(h:p:=by simp(maxSteps:=10000000)(maxDischargeDepth:=30)[d,A,C,E,P,L,l,W,m,y,z,U,hu.cN,ph,lQ]):=h
def nm(h:p:=by simp[Op.equalIn,run_underlying h]):=h
def nn(h:p:=by subst this;rw[bB,if_pos rfl];simp only[J0 (iX _),xv,xL];exact⟨v,ab,ab,ab⟩):=h
def ns(h:p:=by simpa using this):=h
def nx(h:p:=by simp[h1,K,w,h,hp,e,S,b,t,r,F,iA]):=h
def nB(h:p:=by have e:=ud (aK:=a) (ax:=ax) (p:=(ac.mk q f)) (n:=n) (back:=back) h1;simp[h1,e]):=h
def nE(h:p:=by simp only;omega):=h
def nF(h:p:=by exact T (h.fQ rfl)):=h
def nI(h:p:=by rcases this with rfl|rfl|rfl<;>simp<;>omega):=h
def nJ(h:p:=by exact T (h.jump rfl h.eP h.iw)):=h
def nL(h:p:=by obtain⟨a,b,c,d,rfl⟩:=JK h;have W:=hx 0 ai;have e:=hx 1 ai;have m:=hx 2 ai;have u:=hx 3 ai;simp at W e m u;exact k_):=h
def nP(h:p:=by obtain⟨a,b,c,rfl⟩:=OV h;have W:=hx 0 ai;have e:=hx 1 ai;have m:=hx 2 ai;simp at W e m;exact k_):=h
def nQ(h:p:=by obtain⟨a,b,rfl⟩:=OU h;have W:=hx 0 ai;have e:=hx 1 ai;simp at W e;exact k_):=h
def nR(h:p:=by obtain⟨a,rfl⟩:=OT h;have W:=hx 0 ai;simp at W;exact k_):=h
def nS(h:p:=by refine lH.go H t (lW x (n+1) x.bK x.iw) (by simp[iR,W,q,t0,v]) (ip ?_);exact lb):=h
def nT(h:p:=by rw[p]at h es;simp[d,z,U,w,m,h,es,vM];omega):=h
def nU(h:p:=by refine⟨_,w',I,σ',v,_,k h1,.inl rfl,?_,sT _ _ _ _ rfl,W⟩;rw[fw,ik];omega):=h
def nV(h:p:=by simp[y];unfold inside;simp[List.getD,y];by_cases h0:0<=i<;>simp[h0]<;>omega):=h
def n3(h:p:=by rw[ho]at G;obtain⟨s,Z⟩:=wi e;rw[s,Z];exact⟨e,U,G,B,fun j hj=>hP,g3⟩):=h
def n5(h:p:=by obtain⟨rfl,rfl⟩:=h;exact q):=h
def n6(h:p:=by exact .inl ⟨C,aj⟩):=h
def n7(h:p:=by have:=J.2;rw[e]at this;obtain⟨D,rfl,_⟩:=this;simp[Value.oneCell']at J):=h
def n8(h:p:=by simp only[D];rfl):=h
def n9(h:p:=by exact .same _ rfl):=h
def n_(h:p:=by obtain⟨rfl,rfl⟩:=g;exact⟨rfl,H⟩):=h
def om(h:p:=by unfold rz kr at e;simp[ky]at e;subst e;simp[A,F,O,U,m,f,C,E,L,T,j,s,n]):=h
def oo(h:p:=by simp[h0,h];rw[AN (show 0<n from ab),if_pos h]at h1 K;exact wrap_i64 ab):=h
def ou(h:p:=by simp only[cE];intro i l;obtain⟨e1,e2,e3,e4⟩:=dz i l;simp[e1,e2,e3]):=h
def oH(h:p:=by simp only[dX]at h1;obtain⟨ad,cap,i,r,_⟩:=h1;exact⟨ad,cap,i,r⟩):=h
def oR(h:p:=by simp only[dX]at h1;obtain⟨ad,cap,i,q,_⟩:=h1;exact⟨ad,cap,i,q⟩):=h
def o0(h:p:=by simp only[cE];intro i A;obtain⟨e1,e2,Y,e4⟩:=hh i A;simp[e1,e2,Y]):=h
def o6(h:p:=by clear d f t;unfold mK at u;cases v:iP jy 2<;>simp[v]at u⊢ <;>omega):=h
def o8(h:p:=by clear d f t;unfold mK at u;cases v:iP jy 1<;>simp[v]at u⊢ <;>omega):=h
def o_(h:p:=by clear d f t;unfold mK at u;cases v:iP jy 0<;>simp[v]at u⊢ <;>omega):=h
def pn(h:p:=by rename_i r;rw[if_pos r];obtain⟨rfl,rfl,rfl⟩:=C;rw[m9 (H.off g)]):=h
def pr(h:p:=by rw[T.Zr]at this;simpa using this.symm):=h
def pw(h:p:=by rw[w k ab bX bG (fun j q=>by have:=H.lt.2.2.2 j q;omega)];simp[bB]):=h
def pB(h:p:=by rw[if_pos ⟨k,ok,h1,K,U,a,r⟩,if_pos ⟨k,ok,h1,K,U,.inl a,r⟩]):=h
def pE(h:p:=by rw[B k ab bX bG (fun j t=>by have:=H.lt.2.2.2 j t;omega)];simp[bB]):=h
def pF(h:p:=by have:=an.2;rw[D]at this;simp only[V.CH]at this;simp at B;simp_all):=h
def pI(h:p:=by subst t;simp[-cr,h,h1,K,S,l,J,z,n,q]):=h
def pK(h:p:=by rw[u _ _ _ _ G.sep.cl,u _ _ _ _ (fun e=>z e.symm),G.at_.cells,w]):=h
def pL(h:p:=by unfold jr;rw[if_pos rfl,hx,T,if_pos rfl];unfold xD;simp only[U]):=h
def pN(h:p:=by rintro⟨v,h1,K⟩;refine⟨_,v,rfl,h1,fun y h=> ?_⟩<;>grind):=h
def pR(h:p:=by rw[u _ _ _ _ G.bl.1,u _ _ _ _ (fun e=>G.bi r F e.symm),G.box]):=h
def pT(h:p:=by rw[rZ];intro x hx;obtain⟨c,_,rfl⟩:=List.mem_map.1 hx;rfl):=h
def pV(h:p:=by simp only[tm,List.getElem?_range o,ue,aS]at q;exact q.symm):=h
def p0(h:p:=by simp only[W,if_false];rw[s.sigs id (.inr f),(F id ab).2];rfl):=h
def p1(h:p:=by subst w;exact⟨h',e,E⟩):=h
def p2(h:p:=by exact tE hx O ab r hx.iw):=h
def p3(h:p:=by rw[tu aA,r9,sr,Jg (Nat.le_of_lt h),xv,drop_cons h];rfl):=h
def p4(h:p:=by exact .inr (.inl (r4 s.size hx))):=h
def p5(h:p:=by unfold Go.Abs.cG;rw[e];simp only[depth];simp[this,V.l6,yH]):=h
def p6(h:p:=by rename_i S1 h1;obtain⟨n,W,e⟩:=two h1 h;exact⟨n,gD⟩):=h
def p7(h:p:=by refine lH.go H t (lW x eA x.bK x.iw) dR (ip ?_);exact lb):=h
def p8(h:p:=by subst hB;obtain⟨s,Z⟩:=wi e;rw[s,Z];exact⟨e,g3,g4⟩):=h
def p9(h:p:=by simp[execOp,e,iJ h1,iJ K,eqGuard_at_int,binOp,Op.shift,W]):=h
def p_(h:p:=by rw[hr]at B;simp at B):=h
def qa(h:p:=by exact .inl ⟨rfl,rfl⟩):=h
def qb(h:p:=by by_cases h:g=0<;>simp[h]):=h
def qc(h:p:=by subst t;simp[-cr,h,h1,K,l,J,n,q]):=h
def qd(h:p:=by rw[<-Bool.not_eq_false];intro e;rw[if_pos e]at h;cases h):=h
def qe(h:p:=by rcases this with rfl|rfl|rfl|rfl<;>simp[d,c,AS]<;>decide):=h
def qf(h:p:=by simp only[binOp,Sem.run_bind];rw[GL w t e _ _ S ai];rfl):=h
def qg(h:p:=by simp only[D,r3,if_false];exact skip (by simpa using z)):=h
def qh(h:p:=by rw[MX Q u.av];refine w8 fun n=>b ⟨by rw[e];rfl,ab⟩):=h
def ql(h:p:=by obtain⟨e,C⟩:=z7 es h0;rw[<-g.lens e C];exact G e C):=h
def qm(h:p:=by unfold ie;rw[ox,if_neg n];omega):=h
def qt(h:p:=by exact ur _ _ _ ab):=h
def qy(h:p:=by refine Gb c ?_;rw[tD,dA c,dA z,decide_eq_false h,xI]):=h
def qG(h:p:=by obtain⟨x,_,rfl⟩:=List.mem_map.1 h;simp[proper,Ag]):=h
def q0(h:p:=by exact⟨h,G,j,iY _ _,oy _ _⟩):=h
def q8(h:p:=by refine ij ?_;simp[fX];cases jumps op<;>simp<;>omega):=h
def q9(h:p:=by simp[n,c,b,j,r,z,H,P,Y,f,v,J,B,K,e,T,d,a,l,h1,h,ko]):=h
def q_(h:p:=by intro e C;obtain⟨n,_,rfl⟩:=List.mem_map.1 C;rfl):=h
def ra(h:p:=by have q:=(l j ab).2.2.1;rw[if_pos o,if_neg ab];omega):=h
def rb(h:p:=by have HG:=K0 x;simp[A,F,O,U,m,f,C,E,L,T,j,s,n,ha,HG]):=h
def rj(h:p:=by exact⟨y,⟨u,h1,K,this⟩,ey.oD es k b (o+k) a⟩):=h
end
def x_{l:Sort _}(a:l):∃q,a=q:=⟨a,rfl⟩
def X6:=@Nat.add_assoc
def X7:=@Int.toNat_natCast
def X8:=@Bool.and_eq_true
def jp:=@Int.eq_ofNat_of_zero_le
def rk:=@List.getElem?_eq_getElem
def iX:=@Nat.le_refl
def rT:=@List.getD_eq_getElem?_getD
def v0:=@Int.tmod_eq_emod_of_nonneg
def rm:=@List.length_set
def rx:=@List.getElem_mem
def r3:=@Bool.false_eq_true
def rZ:=@List.all_eq_true
def sw:=@List.mem_of_mem_take
def tu:=@List.getElem?_append_right
def r6:=@List.getElem_set
def ru:=@Nat.lt_or_ge
def r9:=@List.length_map
def sr:=@List.length_take
def r2:=@List.map_cons
def t6:=@List.mem_of_getElem?
def r4:=@Nat.le_trans
def t_:=@List.mem_of_mem_drop
def ug:=@List.getElem?_append_left
def sG:=@Bool.not_eq_true'
def ls:=@Ne.symm
def ta:=@List.length_append
def uD:=@Array.getD_eq_getD_getElem?
def r_:=@List.map_nil
def tm:=@List.getElem?_map
def un:=@List.take_length
def s9:=@List.length_cons
def uf:=@List.getElem?_eq_none
def tl:=@List.ext_getElem?
def t5:=@List.mem_cons_self
def t4:=@Int.emod_lt_of_pos
def tj:=@Option.getD_some
def Fp:=@Int.tdiv_eq_ediv_of_nonneg
def t3:=@List.getElem?_set
def vb:=@List.mem_or_eq_of_mem_set
def ul:=@Nat.mul_le_mul_right
def sB:=@List.map_set
def w8:=@Classical.byContradiction
def t2:=@List.map_append
def va:=@Nat.lt_of_lt_of_le
def uy:=@Array.length_toList
def t9:=@Int.emod_nonneg
def ue:=@Option.map_some
def uc:=@List.getElem_map
def u':=@List.mem_cons_of_mem
def xR:=@List.eq_nil_of_length_eq_zero
def w6:=@List.drop_eq_getElem_cons
def ux:=@List.getElem?_drop
def ua:=@Bool.or_eq_true
def vX:=@List.getElem?_mapIdx
def ui:=@List.cons.injEq
def xL:=@List.getElem_cons_zero
def vP:=@List.getElem_of_mem
def vI:=@List.getElem_set_ne
def vH:=@List.getD_cons_zero
def tg:=@Int.le_refl
def t1:=@Nat.add_mul
def vD:=@List.append_assoc
def w5:=@List.map_congr_left
def u_:=@List.append_nil
def u5:=@List.range_succ
def z7:=@List.exists_mem_of_ne_nil
def xK:=@List.set_getElem_self
def y4:=@List.getElem_cons_succ
def xI:=@Bool.false_and
def y3:=@List.getElem_set_self
def y2:=@Array.getElem?_toList
def y1:=@List.contains_iff_mem
def w4:=@List.length_nil
def xC:=@Bool.not_eq_false
def y0:=@List.getElem?_set_ne
def u0:=@List.set_set
def vA:=@List.all_cons
def yZ:=@List.getD_cons_succ
def xB:=@List.length_drop
def xv:=@Nat.sub_self
def vy:=@Nat.zero_add
def yY:=@Nat.le_max_right
def w3:=@List.map_map
def J2:=@List.drop_length
def J0:=@List.getElem_append_right
def Ef:=@Array.mapM_eq_mapM_toList
def JV:=@List.getElem_append_left
def D':=@List.eq_of_mem_replicate
def yK:=@Nat.le_max_left
def z6:=@List.filter_append
def z5:=@List.mem_singleton
def z4:=@List.set_cons_zero
def z0:=@List.getElem?_take
def D_:=@List.getElem?_cons_zero
def zZ:=@List.take_add_one
def D5:=@List.mem_map
def zV:=@Nat.lt_trichotomy
def xt:=@Nat.add_zero
def DX:=@Bool.and_eq_false_iff
def DW:=@List.set_append_right
def DU:=@Classical.choose_spec
def zR:=@Option.getD_none
def zP:=@List.cons_append
def JQ:=@Nat.le_add_right
def zu:=@List.ext_getElem
def zG:=@Option.bind_some
def yB:=@List.map_take
def yr:=@Bool.not_true
def DI:=@List.mem_append_left
def DH:=@List.getElem?_of_mem
def zD:=@List.nil_append
def zC:=@List.mem_append
def DG:=@List.getElem_eq_iff
def DF:=@List.replicate_succ
def DE:=@Nat.ne_of_lt
def yp:=@List.all_nil
def yo:=@Nat.zero_mul
def zz:=@List.drop_take
def DC:=@List.length_mapIdx
def Do:=@Array.getElem?_map
def zy:=@List.drop_zero
def Dk:=@List.foldl_append
def Dj:=@Int.emod_eq_of_lt
def C':=@List.getElem_take
def zx:=@Bool.false_or
def C_:=@Int.ediv_le_self
def C4:=@List.any_eq_true
def C3:=@Nat.le_of_not_lt
def CT:=@List.not_mem_nil
def CM:=@Bool.not_eq_true
def CF:=@List.all_append
def DT:=@Int.ediv_nonneg
def DS:=@Int.tmod_nonneg
def Jg:=@Nat.min_eq_left
def BZ:=@Option.some.inj
def BW:=@List.mem_range
def BA:=@List.drop_drop
def CD:=@List.mapM_cons
def Co:=@Bool.true_and
def Cl:=@List.map_drop
def B_:=@List.mem_cons
def B9:=@List.sum_cons
def B8:=@Nat.zero_le
variable  {i n n1 m:Nat}
def aS{l:Type _}(a b:l):(some a=some b)=(a=b):=Option.some.injEq a b
def cy {l:Type _} {s:Type _} (a:l) (b:s) (c:l) (d:s):((a,b)=(c,d))=(a=c/\b=d):=Prod.mk.injEq a b c d
def bQ {m:Type _} {l:List m}  (h:l.length<=i):l.take i=l:=List.take_of_length_le h
inductive V where
 |int (k:IntKind) (n:Int)
 |bool (b:Bool)
 |str (s:List UInt8)
 |agg (cs:List V)
 |ed (vs:List V)
 |sl (clip:Bool) (es:List V)
 |ref (cs:List V)
 |cX (id start len:Nat)
 |ptr (id i f:Nat)
 |wC
 |Qz (b:Bool)
 |fn (g:FuncId) (first Lp:List V)
 |bad
 deriving Inhabited
def V.cells:V->List V
 | .agg cs=>cs
 |v=> [v]
structure Ob where
 k:Nat
 es:List V
 eP:Bool
 deriving Inhabited
structure TI where
 size:Nat
 bytes:Nat
 agg:Bool
 zero:V
 elem:Nat
 x9:List (Nat×Nat)
 arr:Option Nat
 kind:Option IntKind
 ya:List Nat
 deriving Inhabited
abbrev bI:=Nat->Option Ob
structure St where
 f:Nat->V
 h:bI
 n:Nat
abbrev jv:=FuncId->List V->bI->Nat->Option (V×bI×Nat)
inductive Loc where
 |box (t:Nat)
 |slot (t:Nat)
 |cell (t j:Nat)
 deriving DecidableEq
structure Gr where
 loc:Loc
 new:Nat
 k:Nat
 eP:Bool
structure Norm where
 azi:List Nat
 roots:List Gr
 base:Bool
 n:Nat
structure Prim where
 run:jv->List V->Option V
 mono: ∀(c d:jv) bxb v,(∀g a h k r,c g a h k=some r->d g a h k=some r)->run c bxb=some v->run d bxb=some v
 cont: ∀(c:Nat->jv) (d:jv) bxb v,(∀n g a h k r,c n g a h k=some r->c (n+1) g a h k=some r)->(∀g a h k r,d g a h k=some r-> ∃n,c n g a h k=some r)->run d bxb=some v-> ∃n,run (c n) bxb=some v
structure Env where
 P:Program
 ti:TypeId->TI
 pz:FuncId->Nat->Bool
 ja:FuncId->Bool
 iu:FuncId->Bool
 clone:FuncId->Option TypeId
 pO:FuncId->Option Prim
 flat:FuncId->Nat->Bool:=fun _ _=>false
 fV:FuncId->TypeId->Bool
 uz:FuncId->Nat->List (Nat×Nat)
 norm:FuncId->Nat->Option Norm
 low:FuncId->Bool
 mask:FuncId->Nat->List (Nat×Nat×TypeId)
 gy:FuncId->List (Nat×Nat×TypeId)
def bB{l:Type}(f:Nat->l)(t:Nat)(v:l):Nat->l:=fun u=>if u=t then v else f u
def St.set(S:St)(d:Option Nat)(v:V):St:=
 match d with
 |some t=>{S with f:=bB S.f t v}
 |none=>S
def St.new(S:St)(o:Ob):St:={S with h:=bB S.h S.n (some o),n:=S.n+1}
def yc:Value->V
 | .bool b=> .bool b
 | .int k n=> .int k n
 | .string s=> .str s.data.toList
 | .pointer none=> .wC
 | .nilIface=> .Qz false
 | .slice none 0 0=> .sl true []
 |_=> .bad
def xe:Value->V
 | .agg cs=> .agg (cs.toList.map yc)
 |v=>yc v
def St.ev(S:St):Operand->V
 | .tmp t=>S.f t
 | .const v=>xe v
 | .func g=> .fn g [] []
 | .global _=> .bad
def di{m:Type}:List (Option m)->Option (List m)
 | []=>some []
 |none::_=>none
 |some a::r=>match di r with|some l=>some (a::l)|none=>none
mutual
def V.l6:V->V
 | .sl _ es=> .sl false (ft es)
 | .agg cs=> .agg (ft cs)
 | .ed cs=> .ed (ft cs)
 |v=>v
def ft:List V->List V
 | []=> []
 |c::cs=>c.l6::ft cs
end
def da(h:bI):Nat->V->Option V
 |_,.int k n=>some (.int k n)
 |_,.bool b=>some (.bool b)
 |_,.str s=>some (.str s)
 |_,.sl c es=>some (.sl c es)
 |_,.wC=>some .wC
 |_,.Qz b=>some (.Qz b)
 |_,.fn g [] []=>some (.fn g [] [])
 |d+1,.agg cs=>match di (cs.map (da h d)) with|some l=>some (.agg l)|none=>none
 |d+1,.ed cs=>match di (cs.map (da h d)) with|some l=>some (.ed l)|none=>none
 |d+1,.cX id s l=>
  match h id with
  |some o=>
   if s+l<=o.es.length then
    if o.eP then match di (((o.es.drop s).take l).map (da h d)) with|some l=>some (.sl false l)|none=>none
    else some (.sl false ((o.es.drop s).take l))
   else none
  |none=>none
 |_,_=>none
def depth:Nat:=12
def V.pP:V->Bool
 | .int .. =>true
 | .bool _=>true
 | .str _=>true
 | .sl .. =>true
 | .wC=>true
 | .Qz _=>true
 | .fn _ [] []=>true
 |_=>false
def V.QK:V->Bool
 | .agg cs=>cs.all V.pP
 |v=>v.pP
def pQ(h:bI)(v:V):Option (V×bI):=
 match v with
 | .cX id s l=>match h id with
  |some ob=>if(!ob.eP||ob.es.all V.QK)&&decide (s+l<=ob.es.length) then some ((V.sl false ((ob.es.drop s).take l)).l6,bB h id none) else none
  |none=>none
 |v=>if v.pP then some (v.l6,h) else none
def eY(h:bI):List V->Option (List V×bI)
 | []=>some ([],h)
 |c::cs=>match pQ h c with
  |some (c',h1)=>match eY h1 cs with
   |some (s,K)=>some (c'::s,K)
   |none=>none
  |none=>none
def re(h:bI)(v:V):Option (V×bI):=
 match v with
 | .agg cs=>match eY h cs with|some (s,h')=>some (.agg s,h')|none=>none
 |v=>pQ h v
def mV(h:bI):List (Nat×V)->Option (List (Nat×V)×bI)
 | []=>some ([],h)
 |(i,v)::r=>match re h v with
  |some (U,h1)=>match mV h1 r with
   |some (r',K)=>some ((i,U)::r',K)
   |none=>none
  |none=>none
def V.leaf:V->Bool
 | .int .. =>true
 | .bool _=>true
 | .str _=>true
 | .wC=>true
 | .Qz _=>true
 |_=>false
def V.zA:V->Bool
 | .agg cs=>cs.all V.leaf
 |v=>v.leaf
def V.scalar:V->Bool
 | .ed vs=>vs.all V.zA
 |v=>v.zA
def V.No:V->Bool
 | .cX .. =>true
 |_=>false
def V.zi:V->Bool
 | .agg cs=>cs.any V.No
 | .ed _=>true
 |v=>v.No
def lK:Nat->List V->List V->List V
 |0,[],s=>s
 |0,c::cs,_::s=>c::lK 0 cs s
 |0,_::_,[]=> []
 |n+1,cs,x::s=>x::lK n cs s
 |_+1,_,[]=> []
def V.put(e:V)(f:Nat)(v:V):V:=
 match e with
 | .agg x=> .agg (lK f v.cells x)
 |_=>v
def part(t:TI)(cs:List V)(f:Nat):Option V:=
 if t.agg then(if f+t.size<=cs.length then some (.agg ((cs.drop f).take t.size)) else none) else cs[f]?
def V.eqv(d:Nat):V->V->Option Bool
 | .int k a,.int k' b=>if k=k'/\d=0 then some (a==b) else none
 | .bool a,.bool b=>if d=1 then some (a==b) else none
 | .str a,.str b=>if d=2 then some (a==b) else none
 |_,_=>none
def Bg:List Nat->List V->List V->Option Bool
 | [],[],[]=>some true
 |k::f,x::S,y::s=>match V.eqv k x y,Bg f S s with|some a,some b=>some (a&&b)|_,_=>none
 |_,_,_=>none
def QL(ag:Bool)(ya:List Nat):V->V->Option Bool
 | .agg x,.agg y=>if ag=true/\ya≠ [] then Bg ya x y else none
 | .int k a,.int k' b=>if k=k' then some (a==b) else none
 | .bool a,.bool b=>if ag=false/\ya=[1] then some (a==b) else none
 | .str a,.str b=>some (a==b)
 | .wC,.wC=>if ag=false/\ya=[3] then some true else none
 | .wC,.ptr .. =>if ag=false/\ya=[3] then some false else none
 | .ptr ..,.wC=>if ag=false/\ya=[3] then some false else none
 | .Qz a,.Qz b=>if ag=false/\ya=[4]/\(a&&b)=false then some (a==b) else none
 |_,_=>none
def bits(k:IntKind)(op:BinOp)(x y:Int):Int:=
 match op with
 | .and=>k.wrap (BitVec.ofInt k.bits x&&&BitVec.ofInt k.bits y).toNat
 | .or=>k.wrap (BitVec.ofInt k.bits x|||BitVec.ofInt k.bits y).toNat
 | .xor=>k.wrap (BitVec.ofInt k.bits x^^^BitVec.ofInt k.bits y).toNat
 |_=>k.wrap (BitVec.ofInt k.bits x&&& ~~~ BitVec.ofInt k.bits y).toNat
def CG(x y:V)(f:IntKind->Int->Int->Option V):Option V:=
 match x,y with
 | .int k a,.int k' b=>if k=k' then f k a b else none
 |_,_=>none
def uA(ag:Bool)(ya:List Nat)(op:BinOp)(x y:V):Option V:=
 match op with
 | .eql=>match QL ag ya x y with|some b=>some (.bool b)|none=>none
 | .neq=>match QL ag ya x y with|some b=>some (.bool (!b))|none=>none
 | .add=>match x,y with
  | .str a,.str b=>if a.length+b.length<=2^62 then some (.str (a++b)) else none
  |x,y=>CG x y fun k a b=>some (.int k (k.wrap (a+b)))
 | .sub=>CG x y fun k a b=>some (.int k (k.wrap (a-b)))
 | .mul=>CG x y fun k a b=>some (.int k (k.wrap (a*b)))
 | .quo=>CG x y fun k a b=>if b=0 then none else some (.int k (k.wrap (a.tdiv b)))
 | .rem=>CG x y fun k a b=>if b=0 then none else some (.int k (a.tmod b))
 | .lss=>CG x y fun _ a b=>some (.bool (decide (a<b)))
 | .leq=>CG x y fun _ a b=>some (.bool (decide (a<=b)))
 | .gtr=>CG x y fun _ a b=>some (.bool (decide (b<a)))
 | .geq=>CG x y fun _ a b=>some (.bool (decide (b<=a)))
 | .shl=>match x,y with| .int k a,.int _ b=>if b<0 then none else some (.int k (k.wrap (a*2^ (min b.toNat k.bits))))|_,_=>none
 | .shr=>match x,y with| .int k a,.int _ b=>if b<0 then none else some (.int k (a.fdiv (2^ (min b.toNat k.bits))))|_,_=>none
 |op=>CG x y fun k a b=>some (.int k (bits k op a b))
def ws(op:UnOp)(x:V):Option V:=
 match op,x with
 | .neg,.int k n=>some (.int k (k.wrap (0-n)))
 | .not,.bool b=>some (.bool (!b))
 |_,_=>none
def elems(h:bI):V->Option (List V×Bool)
 | .sl _ es=>some (es,false)
 | .cX id s l=>match h id with|some o=>if s+l<=o.es.length then some ((o.es.drop s).take l,o.eP) else none|none=>none
 | .str s=>some (s.map fun b=> .int .u8 b.toNat,false)
 |_=>none
def byteOf:V->Option UInt8
 | .int .u8 n=>some (UInt8.ofNat n.toNat)
 |_=>none
def bytesOf(es:List V):Option (List UInt8):=di (es.map byteOf)
def Gq:V->Option Nat
 | .sl _ es=>some es.length
 | .cX _ _ l=>some l
 | .str s=>some s.length
 |_=>none
def V.isStr:V->Bool
 | .str _=>true
 |_=>false
def V.CH:V->Bool
 | .ptr .. =>true
 |_=>false
def TI.isStr(t:TI):Bool:=t.ya==[2]
def V.fits(v:V)(k:Nat):Bool:=
 match v with
 | .agg cs=>cs.length==k
 | .ed _=>false
 | .bad=>false
 |_=>k==1
def yX(Q:List (Nat×Nat))(cs:List V):List (Nat×V)->Option (List V)
 | []=>some cs
 |(i,v)::r=>match Q[i]? with
  |some (o,k)=>if v.fits k&&decide (o+k<=cs.length) then yX Q (lK o v.cells cs) r else none
  |none=>none
def rE(k:Nat)(es:List V):List (Nat×V)->Option (List V)
 | []=>some es
 |(i,v)::r=>if v.fits k&&decide (i<es.length) then rE k (es.set i v) r else none
def Zm(d:Nat)(v:Option V)(m:Nat):Option Nat:=
 match v with
 |none=>some d
 |some (.int _ n)=>if 0<=n/\n<=m then some n.toNat else none
 |some _=>none
def bounds(o i:Option V)(len:Nat):Option (Nat×Nat):=
 match Zm len i len with
 |some h=>match Zm 0 o h with
  |some l=>some (l,h)
  |none=>none
 |none=>none
def Np(b:Bool)(k:Option IntKind)(h:bI)(n:Nat):V->Option (V×bI×Nat)
 | .str s=>if b=false/\k=some .u8/\s.length<=2^62 then some (.cX n 0 s.length,bB h n (some ⟨1,s.map fun c=> .int .u8 c.toNat,false⟩),n+1) else none
 |_=>none
def u9{b:Bool}{k:Option IntKind}{h h1:bI}{v w:V}(e:Np b k h n v=some (w,h1,n1)):
  b=false/\k=some .u8/\ ∃s,v= .str s/\s.length<=2^62/\w= .cX n 0 s.length/\h1=bB h n (some ⟨1,s.map fun c=> .int .u8 c.toNat,false⟩)/\n1=n+1:=by
 cases v with
 |str s=>
  simp only[Np]at e
  grind
 |_=>cases e
def dm(X:Env)(cR:FuncId)(o:Oper)(u:Operand->V)(h0:bI)(n0:Nat):Option (V×bI×Nat):=
 match o.op with
 | .move x=>some ((u x),h0,n0)
 | .assign x=>some ((u x),h0,n0)
 | .pick c a b=>match u c with| .bool t=>some ((if t then u a else u b),h0,n0)|_=>none
 | .alloc t=>some ((.ptr n0 0 0),bB h0 n0 (some ⟨(X.ti t).size,[(X.ti t).zero],true⟩),n0+1)
 | .box t x=>if(u x).fits (X.ti t).size then some ((.ptr n0 0 0),bB h0 n0 (some ⟨(X.ti t).size,[u x],true⟩),n0+1) else none
 | .build t ps=>
  match(X.ti t).arr with
  |none=>if(X.ti t).x9=[] then none else match yX (X.ti t).x9 (X.ti t).zero.cells (ps.toList.map fun p=>(p.1,u p.2)) with
   |some cs=>some ((.agg cs),h0,n0)
   |none=>none
  |some m=>match yX ((List.range m).map fun i=>(i*(X.ti (X.ti t).elem).size,(X.ti (X.ti t).elem).size)) (X.ti t).zero.cells (ps.toList.map fun p=>(p.1,u p.2)) with
   |some cs=>some ((.agg cs),h0,n0)
   |none=>none
 | .buildSlice t n ps=>
  let e:=(X.ti t).elem
  if X.fV cR e then
   match rE (X.ti e).size (List.replicate n (X.ti e).zero) (ps.toList.map fun p=>(p.1,u p.2)) with
   |some es=>some ((.cX n0 0 n),bB h0 n0 (some ⟨(X.ti e).size,es,true⟩),n0+1)
   |none=>none
  else if o.dst.any (X.flat cR) then
   match mV (fun _=>none) (ps.toList.map fun p=>(p.1,u p.2)) with
   |some (l,_)=>match rE (X.ti e).size (List.replicate n (X.ti e).zero) l with
    |some es=>some ((.sl true es),h0,n0)
    |none=>none
   |none=>none
  else
  match mV h0 (ps.toList.map fun p=>(p.1,u p.2)) with
  |some (l,h)=>
   match rE (X.ti e).size (List.replicate n (X.ti e).zero) l with
   |some es=>
    if o.dst.any (X.pz cR) then some ((.cX n0 0 n),bB (h) n0 (some ⟨(X.ti e).size,es,false⟩),n0+1)
    else some ((.sl true es),h,n0)
   |none=>none
  |none=>none
 | .load t a=>match u a with
  | .ptr id i f=>match h0 id with
   |some ob=>match ob.es[i]? with
    |some e=>match part (X.ti t) e.cells f with|some v=>some (v,h0,n0)|none=>none
    |none=>none
   |none=>none
  | .ref cs=>match part (X.ti t) cs 0 with|some v=>some (v,h0,n0)|none=>none
  |_=>none
 | .store t a x=>match u a with
  | .ptr id i f=>match h0 id with
   |some ob=>
    match(if ob.eP then some (u x,h0) else re h0 (u x)) with
    |some (v,h)=>match h id with
     |some ob=>match ob.es[i]? with
      |some e=>if v.fits (X.ti t).size&&decide (f+(X.ti t).size<=e.cells.length) then some (.bad,bB h id (some {ob with es:=ob.es.set i (e.put f v)}),n0) else none
      |none=>none
     |none=>none
    |none=>none
   |none=>none
  |_=>none
 | .nilCheck x=>match u x with
  | .ptr id i f=>some ((.ptr id i f),h0,n0)
  | .ref cs=>some ((.ref cs),h0,n0)
  | .fn g a b=>some ((.fn g a b),h0,n0)
  |_=>none
 | .binOp op t x y _=>match uA (X.ti t).agg (X.ti t).ya op (u x) (u y) with|some v=>some (v,h0,n0)|none=>none
 | .unOp op _ x=>match ws op (u x) with|some v=>some (v,h0,n0)|none=>none
 | .convert _ d x=>match(X.ti d).kind,u x with
  |some k,.int _ n=>some ((.int k (k.wrap n)),h0,n0)
  |none,v=>if(X.ti d).isStr=true/\v.isStr=false then(match elems h0 v with
   |some (es,_)=>match bytesOf es with
    |some s=>some (.str s,h0,n0)
    |none=>none
   |none=>none) else Np (X.ti d).isStr (X.ti (X.ti d).elem).kind h0 n0 v
  |_,_=>none
 | .makeFunc (.func g) a b=>some ((.fn g (a.toList.map u) (b.toList.map u)),h0,n0)
 | .makeSlice t l c=>match u l,u c with
  | .int _ n,.int _ m=>if 0<=n/\n<=m/\m*(X.ti (X.ti t).elem).bytes<=2^47/\m<=2^62 then
    some ((.cX n0 0 n.toNat),bB h0 n0 (some ⟨(X.ti (X.ti t).elem).size,List.replicate n.toNat (X.ti (X.ti t).elem).zero,X.fV cR (X.ti t).elem⟩),n0+1) else none
  |_,_=>none
 | .slice t x G r w=>
  if(u x).isStr=(X.ti t).isStr/\(u x).CH=(X.ti t).arr.isSome then
   match u x with
   | .sl _ es=>
    if es.all (fun e=>e.cells.length==(X.ti (X.ti t).elem).size) then
     match w with
     |none=>match bounds (G.map u) (r.map u) es.length with|some (l,h)=>some ((.sl false ((es.take h).drop l)),h0,n0)|none=>none
     |some m=>match u m,r.map u with
      | .int _ p,some (.int _ q)=>if p=q then(match bounds (G.map u) (r.map u) es.length with|some (l,h)=>some ((.sl true ((es.take h).drop l)),h0,n0)|none=>none) else none
      |_,_=>none
    else none
   | .cX id s n=>
    match w,h0 id with
    |none,some ob=>if ob.k=(X.ti (X.ti t).elem).size then(match bounds (G.map u) (r.map u) n with|some (l,h)=>some ((.cX id (s+l) (h-l)),h0,n0)|none=>none) else none
    |some m,some ob=>if ob.k=(X.ti (X.ti t).elem).size then(match u m,r.map u with
      | .int _ p,some (.int _ q)=>if p=q then(match bounds (G.map u) (r.map u) n with|some (l,h)=>some ((.cX id (s+l) (h-l)),h0,n0)|none=>none) else none
      |_,_=>none) else none
    |_,none=>none
   | .str s=>match w with
    |none=>match bounds (G.map u) (r.map u) s.length with|some (l,h)=>some ((.str ((s.take h).drop l)),h0,n0)|none=>none
    |some _=>none
   | .ptr id 0 0=>match w,G,r,(X.ti t).arr,h0 id with
    |none,none,none,some m,some ob=>match ob.es with
     | [e]=>if e.cells.all V.pP=true/\e.cells.length=m/\(X.ti (X.ti t).elem).size=1/\0<m then some (.sl true e.cells,bB h0 id none,n0) else none
     |_=>none
    |_,_,_,_,_=>none
   |_=>none
  else none
 | .fieldAddr t x i=>match(X.ti t).x9[i]? with
  |some (off,_)=>match u x with
   | .ptr id j f=>some ((.ptr id j (f+off)),h0,n0)
   | .ref cs=>some ((.ref (cs.drop off)),h0,n0)
   |_=>none
  |none=>none
 | .indexAddr t x F=>match u F with
  | .int _ n=>match u x with
   | .sl _ es=>if(0<=n/\n<es.length)/\(X.ti t).arr=none then(match es[n.toNat]? with|some e=>if e.cells.length=(X.ti (X.ti t).elem).size then some ((.ref e.cells),h0,n0) else none|none=>none) else none
   | .cX id s l=>if(0<=n/\n<l)/\(X.ti t).arr=none then(match h0 id with|some ob=>if ob.k=(X.ti (X.ti t).elem).size then some ((.ptr id (s+n.toNat) 0),h0,n0) else none|none=>none) else none
   | .ptr id j f=>match(X.ti t).arr with
    |some m=>if 0<=n/\n<m then some ((.ptr id j (f+n.toNat*(X.ti (X.ti t).elem).size)),h0,n0) else none
    |none=>none
   |_=>none
  |_=>none
 | .index t x F=>match u F with
  | .int _ n=>match u x with
   | .str s=>if 0<=n/\(X.ti t).arr=none then(match s[n.toNat]? with|some b=>some ((.int .u8 b.toNat),h0,n0)|none=>none) else none
   | .agg cs=>match(X.ti t).arr with
    |some m=>if 0<=n/\n<m then(match part (X.ti (X.ti t).elem) cs (n.toNat*(X.ti (X.ti t).elem).size) with|some v=>some (v,h0,n0)|none=>none) else none
    |none=>none
   |_=>none
  |_=>none
 | .field t x f=>match u x with
  | .agg cs=>match(X.ti t).x9[f]? with
   |some (k,_)=>match part (X.ti o.type) cs k with|some v=>some (v,h0,n0)|none=>none
   |none=>none
  |_=>none
 | .extract x i=>match u x with
  | .ed vs=>match vs[i]? with|some v=>some (v,h0,n0)|none=>none
  |_=>none
 | .call ⟨.builtin .len,args,W⟩=>match args.toList.map u with
  | [x]=>if x.isStr=(X.ti (W.getD 0 0)).isStr then(match Gq x with|some n=>some ((.int .i64 n),h0,n0)|none=>none) else none
  |_=>none
 | .call ⟨.builtin .min,args,_⟩=>match args.toList.map u with
  | [.int k a,.int k' b]=>if k=k' then some ((.int k (if b<a then b else a)),h0,n0) else none
  |_=>none
 | .call ⟨.builtin .max,args,_⟩=>match args.toList.map u with
  | [.int k a,.int k' b]=>if k=k' then some ((.int k (if b>a then b else a)),h0,n0) else none
  |_=>none
 | .call ⟨.builtin .append,args,W⟩=>match args.toList.map u with
  | [s,x]=>match elems h0 s,elems h0 x with
   |some (es,z),some (S,T)=>
    let e:=(X.ti (W.getD 0 0)).elem;let H:=X.fV cR e
    if((z||T)&& !H)|| !(S.all fun v=>v.cells.length==(X.ti e).size)||(X.ti (W.getD 1 0)).kind.isSome then none else
    if(es.length+S.length)*(X.ti e).bytes<=2^47/\es.length+S.length<=2^62 then
     match s with
     | .sl true []=>some ((.cX n0 0 S.length),bB h0 n0 (some ⟨(X.ti e).size,S,H⟩),n0+1)
     | .sl true _=>if T|| !(es.all fun v=>v.cells.length==(X.ti e).size) then none else some ((.sl false (es++S)),h0,n0)
     | .cX id _ _=>match h0 id with
      |some ob=>if ob.k=(X.ti e).size then some ((.cX n0 0 (es.length+S.length)),bB (bB h0 id none) n0 (some ⟨(X.ti e).size,es++S,H⟩),n0+1) else none
      |none=>none
     |_=>none
    else none
   |_,_=>none
  |_=>none
 | .call ⟨.builtin .copy,args,W⟩=>match args.toList.map u with
  | [.cX id s l,x]=>match h0 id,elems h0 x with
   |some ob,some (S,T)=>
    if x.isStr||(T&& !ob.eP)|| !(S.all fun v=>v.cells.length==ob.k) then none else
    if s+l<=ob.es.length/\ob.k=(X.ti (X.ti (W.getD 0 0)).elem).size then
     some ((.int .i64 (min S.length l:Nat)),bB h0 id (some {ob with es:=ob.es.take s++S.take (min S.length l)++ob.es.drop (s+min S.length l)}),n0)
    else none
   |_,_=>none
  |_=>none
 |_=>none
def zs(X:Env)(cR:FuncId)(o:Oper)(S:St):Option St:=
 match dm X cR o S.ev S.h S.n with
 |some (v,h,n)=>some (({S with h:=h,n:=n}:St).set o.dst v)
 |none=>none
def V.TU:V->Bool
 | .int .. =>true
 | .bool _=>true
 | .str _=>true
 | .sl _ es=>es.isEmpty
 | .wC=>true
 | .Qz _=>true
 | .cX .. =>true
 | .ptr .. =>true
 | .bad=>true
 | .fn _ [] []=>true
 |_=>false
def V.Nq:V->Bool
 | .agg cs=>cs.all V.TU
 |v=>v.TU
def V.pu:V->Bool
 | .ed vs=>vs.all V.Nq
 |v=>v.Nq
def j6:Option Ob->Option Ob
 |some ob=>if ob.es.all V.Nq then some ob else none
 |none=>none
def V.cellAt(v:V)(i j:Nat):V:=
 match v with
 | .ed vs=>(vs.getD i .bad).cells.getD j .bad
 |v=>if i=0 then v.cells.getD j .bad else .bad
def sO(F:Nat->V->V):Nat->List V->List V
 |_,[]=> []
 |j,c::cs=>F j c::sO F (j+1) cs
def vY(F:Nat->V->V):V->V
 | .agg cs=> .agg (sO F 0 cs)
 |v=>F 0 v
def wD(F:Nat->Nat->V->V):V->V
 | .ed vs=> .ed (sO (fun i v=>vY (F i) v) 0 vs)
 |v=>vY (F 0) v
def V.src:V->Option Nat
 | .cX id _ _=>some id
 |_=>none
def differ:Option Nat->Option Nat->Bool
 |some a,some b=>a !=b
 |_,_=>true
def wE:List (Option Nat)->Bool
 | []=>true
 |a::r=>r.all (differ a)&&wE r
def gN(h:bI):List (Option Nat)->bI
 | []=>h
 |some id::r=>bB (gN h r) id none
 |none::r=>gN h r
def rowAt(X:Env)(h hx:bI)(t:TypeId)(c:V):Option (List V):=
 match c with
 | .sl true []=>some []
 | .cX id s l=>match h id with
  |some ob=>if ob.k=(X.ti t).size/\s+l<=ob.es.length then match di (((ob.es.drop s).take l).map (da hx depth)) with
    |some es=>some (ft es)
    |none=>none
   else none
  |none=>none
 |_=>none
abbrev Mask:=List (Nat×Nat×TypeId)
def nj:Nat->Mask->Nat->Nat->Option (Nat×TypeId)
 |_,[],_,_=>none
 |n,(a,b,t)::r,i,j=>if a=i/\b=j then some (n,t) else nj (n+1) r i j
def mX(X:Env)(h hx:bI)(m:Mask)(i j:Nat)(c:V):V:=
 match nj 0 m i j with
 |some (_,t)=>match rowAt X h hx t c with
  |some es=> .sl false es
  |none=> .bad
 |none=>match da hx depth c with
  |some c'=>c'.l6
  |none=> .bad
def iI(v:V)(m:Mask):List (Option Nat):=m.map fun q=>(v.cellAt q.1 q.2.1).src
def CI(X:Env)(h hx:bI)(v:V)(m:Mask):Option V:=
 if wE (iI v m)&&m.all (fun q=>(rowAt X h hx q.2.2 (v.cellAt q.1 q.2.1)).isSome) then some (wD (mX X h hx m) v) else none
def Nr(X:Env)(h:bI)(v:V)(m:Mask):Option V:=CI X h (gN h (iI v m)) v m
def wF(n:Nat)(m:Mask):V->V:=wD fun i j c=>
 match nj n m i j with
 |some (q,_)=>match c with
  | .sl _ es=> .cX q 0 es.length
  |_=> .bad
 |none=>c
def CJ(X:Env)(kp:TypeId->Bool)(R:V)(q:Nat×Nat×TypeId):Option Ob:=
 match R.cellAt q.1 q.2.1 with
 | .sl _ es=>some ⟨(X.ti q.2.2).size,es,kp q.2.2⟩
 |_=>none
def zj(X:Env)(kp:TypeId->Bool)(R:V):Nat->Mask->bI->bI
 |_,[],h=>h
 |n,q::m,h=>bB (zj X kp R (n+1) m h) n (CJ X kp R q)
def sQ(h:bI):List V->Option (List V×bI)
 | []=>some ([],h)
 |v::r=>match re h v with
  |some (U,h1)=>match sQ h1 r with
   |some (r',K)=>some (U::r',K)
   |none=>none
  |none=>none
def rF(e v:V):V:=
 match v with
 | .ed vs=> .ed (e::vs)
 |v=> .ed [e,v]
def Bx(v:V)(vs:List V):V:=
 match v with
 | .ed _=> .ed vs
 |_=>vs.headD .bad
def tf(X:Env)(cR:FuncId)(dst:Option Nat)(g:FuncId):Mask:=X.gy g++(dst.elim [] (X.mask cR)).map fun q=>(q.1+1,q.2.1,q.2.2)
def CK(X:Env)(M:Mask)(v:V)(h:bI):Option (Nat×V×List V):=
 match h 0 with
 |some po=>
  match po.es with
  | [e]=>if po.eP then
    match Nr X (bB h 0 none) (rF e v) M with
    |some (.ed (r::s))=>some (po.k,r,s)
    |_=>none
   else none
  |_=>none
 |none=>none
def mY(X:Env)(g:FuncId)(k:Nat)(R:V):bI:=zj X (X.fV g) R 1 (X.gy g) (bB (fun _=>none) 0 (some ⟨k,[wF 1 (X.gy g) R],true⟩))
def Gs:V->V
 | .ed (v::_)=>v
 |_=> .bad
def TV:V->List V
 | .ed (_::vs)=>vs
 |_=> []
def wG(X:Env)(call:jv)(cR:FuncId)(dst:Option Nat)(g:FuncId)(args:List V)(S:St):Option St:=
 match args with
 | .ptr id 0 0::s=>
  match S.h id with
  |some ob=>
   match ob.es with
   | [e]=>
    if ob.eP then
     match CI X (bB S.h id none) (fun _=>none) e (X.gy g) with
     |some R=>
      match sQ (gN (bB S.h id none) (iI e (X.gy g))) s with
      |some (bxb,h1)=>
       match call g (.ptr 0 0 0::bxb) (mY X g ob.k R) (1+(X.gy g).length) with
       |some (v,h,_)=>
        match CK X (tf X cR dst g) v h with
        |some (k',r,c)=>
         some ((⟨S.f,zj X (X.fV cR) (.ed (r::c)) S.n (tf X cR dst g) (bB h1 id (some ⟨k',[Gs (wF S.n (tf X cR dst g) (.ed (r::c)))],true⟩)),S.n+(tf X cR dst g).length⟩:St).set dst
          (Bx v (TV (wF S.n (tf X cR dst g) (.ed (r::c))))))
        |none=>none
       |none=>none
      |none=>none
     |none=>none
    else none
   |_=>none
  |none=>none
 |_=>none
def np(X:Env)(call:jv)(cR:FuncId)(dst:Option Nat)(g:FuncId)(args:List V)(S:St):Option St:=
 match sQ S.h args with
 |some (bxb,h1)=>
  match call g bxb (fun _=>none) 0 with
  |some (v,h,_)=>
   match Nr X h v (dst.elim [] (X.mask cR)) with
   |some r=>some ((⟨S.f,zj X (X.fV cR) r S.n (dst.elim [] (X.mask cR)) h1,S.n+(dst.elim [] (X.mask cR)).length⟩:St).set dst (wF S.n (dst.elim [] (X.mask cR)) r))
   |none=>none
  |none=>none
 |none=>none
def qK(X:Env)(call:jv)(g:FuncId)(bxb:List V):Option (V×bI×Nat):=
 match X.pO g with
 |some p=>match p.run call bxb with
  |some v=>some (v,fun _=>none,0)
  |none=>none
 |none=>call g bxb (fun _=>none) 0
def iv(X:Env)(call:jv)(cR:FuncId)(dst:Option Nat)(g:FuncId)(args:List V)(S:St):Option St:=
 match X.clone g with
 |some t=>
  match args with
  | [s]=>match elems S.h s with
   |some (es,k)=>if s.isStr||(k&& !X.fV cR (X.ti t).elem)|| !(es.all fun v=>v.cells.length==(X.ti (X.ti t).elem).size)|| !decide (es.length*(X.ti (X.ti t).elem).bytes<=2^47/\es.length<=2^62) then none else some ((S.new ⟨(X.ti (X.ti t).elem).size,es,X.fV cR (X.ti t).elem⟩).set dst (.cX S.n 0 es.length))
   |none=>none
  |_=>none
 |none=>
 if X.ja g&& !X.low g then
  match call g args S.h S.n with
  |some (v,h,n)=>some (({S with h:=h,n:=n}:St).set dst v)
  |none=>none
 else if X.iu g then wG X call cR dst g args S
 else if !(dst.elim [] (X.mask cR)).isEmpty then np X call cR dst g args S
 else
  match di (args.map (da S.h depth)) with
  |some bxb=>
   if dst.any (X.pz cR)&& !X.low g then
    match call g (ft bxb) (fun _=>none) S.n with
    |some (v,h,n)=>if args.any V.zi&& !v.pu then none else some (({S with h:=fun id=>if id<S.n then S.h id else if args.any V.zi then j6 (h id) else h id,n:=n}:St).set dst v)
    |none=>none
   else
    match qK X call g (ft bxb) with
    |some (v,h,_)=>match da h depth v with
     |some v=>if args.any V.zi&& !v.scalar then none else some (S.set dst v.l6)
     |none=>none
    |none=>none
  |none=>none
def fD(X:Env)(call:jv)(cR:FuncId)(n0 j:Nat)(o:Oper)(S:St):Option St:=
 match o.op with
 | .call ⟨.value x,args,_⟩=>
  match S.ev x with
  | .fn g first Lp=>iv X call cR o.dst g (first++args.toList.map S.ev++Lp) S
  |_=>none
 |_=>
  match dm X cR o S.ev S.h (n0+j) with
  |some (v,h,_)=>some (({S with h:=h}:St).set o.dst v)
  |none=>none
def gZ(X:Env)(call:jv)(cR:FuncId)(dF:List (Option Nat))(n0:Nat):Nat->List Oper->St->Option St
 |_,[],S=>some S
 |k,o::r,S=>
  match o.guard with
  |none=>match fD X call cR n0 k o S with|some S1=>gZ X call cR dF n0 (k+1) r S1|none=>none
  |some (j,w)=>
   match dF[j]? with
   |some (some d)=>match S.f d with
    | .bool b=>if b=w then(match fD X call cR n0 k o S with|some S1=>gZ X call cR dF n0 (k+1) r S1|none=>none) else gZ X call cR dF n0 (k+1) r (S.set o.dst (.ed []))
    | .ed []=>gZ X call cR dF n0 (k+1) r (S.set o.dst (.ed []))
    |_=>none
   |_=>none
inductive Ex where
 |normal
 |exit (id:Nat)
 |ret
 deriving DecidableEq
def nO(X:Env)(rs:List ResultVar)(S:St):Option V:=
 match di (rs.map fun
  | .tmp t=>some (S.f t)
  | .cell a t=>match S.f a with
   | .ptr id i f=>match S.h id with
    |some ob=>match ob.es[i]? with
     |some e=>part (X.ti t) e.cells f
     |none=>none
    |none=>none
   |_=>none) with
 |some [v]=>some v
 |some vs=>some (.ed vs)
 |none=>none
def pS(args:List V):Nat->V:=fun t=>match args[t]? with|some v=>v|none=> .bad
abbrev Ev:=FuncId->Code->St->Option (Ex×St)
def xf(X:Env)(rs:List ResultVar):Option (Ex×St)->Option (V×bI×Nat)
 |some (.normal,S)=>match nO X rs S with|some v=>some (v,S.h,S.n)|none=>none
 |some (.ret,S)=>match nO X rs S with|some v=>some (v,S.h,S.n)|none=>none
 |_=>none
def dV(X:Env)(E:Ev):jv:=fun g args h k=>
 match X.pO g with
 |some _=>none
 |none=>match X.P.funcs[g]? with
  |some fn=>match fn.body with
   |some b=>xf X fn.results.toList (E g b ⟨pS args,h,k⟩)
   |none=>none
  |none=>none
def Kc(dF:List (Option Nat))(o:Oper)(S1:St):Prop:=
 match o.guard with
 |some (j,w)=>(match dF[j]? with
  |some (some d)=>S1.f d= .ed []\/S1.f d= .bool (!w)
  |_=>False)
 |none=>False
def lL(X:Env)(call:jv)(cR:FuncId)(ops:List Oper)(n0:Nat)(S0 S1:St)(l:List (Nat×Nat)):Prop:=
 ∀q∈l,(∃o,ops[q.1]?=some o/\Kc (ops.map (·.dst)) o S1)\/(∃o T v,ops[q.1]?=some o/\gZ X call cR (ops.map (·.dst)) n0 0 (ops.take q.2) S0=some T/\
  dm X cR o S1.ev T.h (n0+q.1)=some (v,T.h,n0+q.1)/\ ∀d,o.dst=some d->S1.f d=v)
def Loc.val(S:St):Loc->V
 | .box t=>S.f t
 | .slot t=>S.f t
 | .cell t j=>match S.f t with
  | .ptr id 0 0=>match S.h id with
   |some ob=>match ob.es with
    | [e]=>e.cells.getD j .bad
    |_=> .bad
   |none=> .bad
  |_=> .bad
def V.root:V->Option Nat
 | .cX id _ _=>some id
 | .ptr id 0 0=>some id
 |_=>none
def V.boxed:V->Option Nat
 | .ptr id 0 0=>some id
 |_=>none
def look(S:St)(id:Nat):List Gr->Option Nat
 | []=>none
 |a::r=>if(a.loc.val S).root=some id then some a.new else look S id r
def V.wide:V->V
 | .sl _ es=> .sl false es
 |v=>v
def fixC(S:St)(N:Norm)(hx:bI):V->V
 | .cX id s l=>match look S id N.roots with
  |some j=> .cX j s l
  |none=>match da hx depth (.cX id s l) with
   |some v=>v
   |none=> .bad
 | .ptr id i f=>match look S id N.roots with
  |some j=> .ptr j i f
  |none=> .bad
 |v=>if v.pP then v.wide else .bad
def Lq(S:St)(N:Norm)(hx:bI):V->V
 | .agg cs=> .agg (cs.map (fixC S N hx))
 |v=>fixC S N hx v
def Gt(S:St)(N:Norm)(hx:bI):V->V
 | .ed vs=> .ed (vs.map (Lq S N hx))
 | .fn g a b=> .fn g (a.map (Lq S N hx)) (b.map (Lq S N hx))
 | .ref cs=> .ref cs
 |v=>Lq S N hx v
def AF(t:Nat):List Gr->Option Nat
 | []=>none
 |a::r=>if a.loc= .slot t then some a.new else AF t r
def qW(S:St)(id j:Nat):List Gr->Option Nat
 | []=>none
 |a::r=>match a.loc with
  | .cell t o=>if o=j/\(S.f t).boxed=some id then some a.new else qW S id j r
  |_=>qW S id j r
def zk(o:Option Nat)(v w:V):V:=
 match v with
 | .sl true []=>match o with
  |some n=> .cX n 0 0
  |none=>w
 |_=>w
def CL(S:St)(N:Norm)(hx:bI)(id:Nat):Nat->List V->List V
 |_,[]=> []
 |j,c::cs=>zk (qW S id j N.roots) c (fixC S N hx c)::CL S N hx id (j+1) cs
def QN(S:St)(N:Norm)(hx:bI)(id:Nat):V->V
 | .agg cs=> .agg (CL S N hx id 0 cs)
 |v=>zk (qW S id 0 N.roots) v (fixC S N hx v)
def Gu(S:St)(N:Norm)(hx:bI)(id:Nat):Option Ob->Option Ob
 |some ob=>
  if ob.eP then
   match ob.es with
   | [e]=>some ⟨ob.k,[QN S N hx id e],true⟩
   |es=>if es.all V.QK then some ob else none
  else some ob
 |none=>none
def fixF(S:St)(N:Norm)(hx:bI):List Nat->Nat->V
 | []=>fun _=> .bad
 |t::r=>bB (fixF S N hx r) t (zk (AF t N.roots) (S.f t) (Gt S N hx (S.f t)))
def QO(S:St)(N:Norm)(hx:bI)(k:Nat)(eP:Bool):V->Option Ob
 | .sl true []=>some ⟨k,[],eP⟩
 |v=>match v.root with
  |some id=>Gu S N hx id (S.h id)
  |none=>none
def Gr.ob(S:St)(N:Norm)(hx:bI)(a:Gr):Option Ob:=QO S N hx a.k a.eP (a.loc.val S)
def QP(S:St)(N:Norm)(hx:bI):List Gr->bI
 | []=>fun _=>none
 |a::r=>bB (QP S N hx r) a.new (a.ob S N hx)
def Norm.uJ(N:Norm)(S:St):List (Option Nat):=N.roots.map fun a=>(a.loc.val S).root
def nN(id:Nat):List Gr->Option Gr
 | []=>none
 |a::r=>if a.new=id then some a else nN id r
def Norm.first(N:Norm)(S:St):Bool:=
 match N.base,N.roots with
 |false,_=>true
 |true,a::_=>a.new==0&& (a.loc.val S).root==some 0
 |_,_=>false
def Norm.ok(N:Norm):Bool:=decide (1<=N.n)&&N.roots.all (fun a=>decide (a.new<N.n)&& (match nN a.new N.roots with|some b=>decide (b.loc=a.loc)|none=>false))
def Norm.run(N:Norm)(S:St):Option St:=
 if wE (N.uJ S)&&N.first S then
  some ⟨fixF S N (gN S.h (N.uJ S)) N.azi,QP S N (gN S.h (N.uJ S)) N.roots,N.n⟩
 else none
def je:Code->Nat
 | .region id _ _=>id
 | .seq a _=>je a
 | .block _ b=>je b
 | .loop b=>je b
 |_=>0
def pD(X:Env)(cR:FuncId)(key:Nat)(S:St):Option St:=
 match X.norm cR key with
 |some N=>N.run S
 |none=>some S
open Classical in
noncomputable def kN(X:Env)(E:Ev):Ev:=fun cR c S=>
 match c with
 | .skip=>some (.normal,S)
 | .region id ops _=>match pD X cR (2*id) S with
  |some S=>match gZ X (dV X E) cR (ops.toList.map (·.dst)) S.n 0 ops.toList {S with n:=S.n+ops.size} with
   |some S1=>if lL X (dV X E) cR ops.toList S.n {S with n:=S.n+ops.size} S1 (X.uz cR id) then some (.normal,S1) else none
   |none=>none
  |none=>none
 | .seq a b=>match E cR a S with
  |some (.normal,S1)=>E cR b S1
  |r=>r
 | .cond x a b=>match S.ev x with
  | .bool t=>if t then E cR a S else E cR b S
  |_=>none
 | .block id b=>match E cR b S with
  |some (.exit i,S1)=>if i=id then some (.normal,S1) else some (.exit i,S1)
  |r=>r
 | .loop b=>match pD X cR (2*je b+1) S with
  |some S=>match E cR b S with
   |some (.normal,S1)=>E cR (.loop b) S1
   |r=>r
  |none=>none
 | .exit id=>some (.exit id,S)
 | .ret=>some (.ret,S)
 |_=>none
noncomputable def uK(X:Env):Nat->Ev
 |0=>fun _ _ _=>none
 |n+1=>kN X (uK X n)
def jv.le(c d:jv):Prop:= ∀g a h k r,c g a h k=some r->d g a h k=some r
def Ev.le(c d:Ev):Prop:= ∀f b S r,c f b S=some r->d f b S=some r
def kY{X:Env}{E p:Ev}(h:E.le p):(dV X E).le (dV X p):=by
 intro g a m k r C;unfold dV at C⊢;have L:X.pO g=none:=by
  cases L:X.pO g with
  |none=>rfl
  |some G=>grind
 simp only[L]at C⊢;split at C
 .split at C
  .rename_i b f;cases e:E g b ⟨pS a,m,k⟩ with
   |none=>simp[e,xf]at C
   |some x=>rw[h _ _ _ _ e];grind
  omega
 omega
def QQ{X:Env}{c d:jv}(h:c.le d){g bxb r}(C:qK X c g bxb=some r):qK X d g bxb=some r:=by
 unfold qK at C⊢;cases m:X.pO g with
 |none=>simp only[m]at C⊢;exact h _ _ _ _ _ C
 |some p=>
  simp only[m]at C⊢;cases i:p.run c bxb with
  |none=>grind
  |some v=>rw[i]at C;rw[p.mono c d bxb v h i];omega
def Vv{X:Env}{c d:jv}(h:c.le d){cR dst g args S r}(C:wG X c cR dst g args S=some r):wG X d cR dst g args S=some r:=by
 unfold wG at C⊢;split at C
 case h_2=>omega
 rename_i id e;cases o:S.h id with
 |none=>grind
 |some ob=>
  simp only[o]at C⊢;split at C
  case h_2=>omega
  split at C
  case isFalse=>grind
  rename_i k;rw[if_pos k];split at C
  case h_2=>omega
  rename_i R G;split at C
  case h_2=>omega
  rename_i bxb h1 T;cases i:c g (.ptr 0 0 0::bxb) (mY X g ob.k R) (1+(X.gy g).length) with
  |none=>grind
  |some x=>rw[h _ _ _ _ _ i];grind
def Ns{X:Env}{c d:jv}(h:c.le d){cR dst g args S r}(C:np X c cR dst g args S=some r):np X d cR dst g args S=some r:=by
 unfold np at C⊢;split at C
 case h_2=>omega
 rename_i bxb h1 T;cases i:c g bxb (fun _=>none) 0 with
 |none=>grind
 |some x=>rw[h _ _ _ _ _ i];grind
def Nt{X:Env}{c d:jv}(h:c.le d){cR dst g args S r}(C:iv X c cR dst g args S=some r):iv X d cR dst g args S=some r:=by
 unfold iv at C⊢;cases h1:X.clone g with
 |some t=>grind
 |none=>
  simp only[h1]at C⊢;by_cases K:(X.ja g&& !X.low g)=true
  .simp only[K,if_true]at C⊢;cases i:c g args S.h S.n with
   |none=>grind
   |some x=>rw[h _ _ _ _ _ i];grind
  .simp only[K,if_false,r3]at C⊢;by_cases E:X.iu g=true
   .simp only[E,if_true]at C⊢;exact Vv h C
   simp only[E,if_false,r3]at C⊢;by_cases J:(!(dst.elim [] (X.mask cR)).isEmpty)=true
   .simp only[J,if_true]at C⊢;exact Ns h C
   simp only[J,if_false,r3]at C⊢;cases T:di (args.map (da S.h depth)) with
   |none=>grind
   |some bxb=>
    simp only[T]at C⊢;by_cases a:(dst.any (X.pz cR)&& !X.low g)=true
    .simp only[a,if_true]at C⊢;cases i:c g (ft bxb) (fun _=>none) S.n with
     |none=>grind
     |some x=>rw[h _ _ _ _ _ i];grind
    .simp only[a,if_false,r3]at C⊢;cases i:qK X c g (ft bxb) with
     |none=>grind
     |some x=>rw[QQ h i];grind
def zB{X:Env}{c d:jv}(h:c.le d){cR n0 j o S r}(C:fD X c cR n0 j o S=some r):fD X d cR n0 j o S=some r:=by
 unfold fD at C⊢;split at C
 .split at C
  .exact Nt h C
  omega
 omega
def oL{X:Env}{c d:jv}(h:c.le d){cR dF n0}: ∀{k l S r},gZ X c cR dF n0 k l S=some r->gZ X d cR dF n0 k l S=some r
 |_,[],S,r,C=>C
 |k,o::l,S,r,C=>by
  unfold gZ at C⊢;split at C
  .split at C
   .rename_i S1 h1;rw[zB h h1];exact oL h C
   grind
  .split at C
   .split at C
    .split at C
     .split at C
      .rename_i S1 h1;rename_i i _;simp only[i,if_true];rw[zB h h1];exact oL h C
      grind
     .rename_i i;simp only[i,if_false];exact oL h C
    .exact oL h C
    omega
   omega
def lL.mono{X:Env}{c d:jv}(h:c.le d){cR ops n0 S0 S1 l}(s:lL X c cR ops n0 S0 S1 l):lL X d cR ops n0 S0 S1 l:=by
 intro q u;rcases s q u with k|⟨o,T,v,h1,K,S⟩
 .grind
 .exact .inr ⟨o,T,v,h1,oL h K,S⟩
def Gv{X:Env}{E p:Ev}(h:E.le p):(kN X E).le (kN X p):=by
 intro f c S r C;unfold kN at C⊢;split at C
 .omega
 .split at C
  case h_2=>omega
  split at C
  .rename_i S1 h1;split at C
   .rename_i s;rw[oL (kY h) h1];simp only[s.mono (kY h),if_true];omega
   grind
  grind
 .rename_i a b;cases W:E f a S with
  |none=>grind
  |some x=>
   rw[h _ _ _ _ W];rw[W]at C;obtain⟨e,S1⟩:=x;cases e with
   |normal=>exact h _ _ _ _ C
   |exit i=>omega
   |ret=>omega
 .split at C
  .split at C
   .rename_i t;simp only[t,if_true];exact h _ _ _ _ C
   .rename_i t;simp only[t,if_false,r3];exact h _ _ _ _ C
  omega
 .rename_i id b;cases g:E f b S with
  |none=>grind
  |some x=>rw[h _ _ _ _ g];grind
 .rename_i b;split at C
  case h_2=>omega
  rename_i D n;cases g:E f b D with
  |none=>grind
  |some x=>
   rw[h _ _ _ _ g];rw[g]at C;obtain⟨e,S1⟩:=x;cases e with
   |normal=>exact h _ _ _ _ C
   |exit i=>omega
   |ret=>omega
 .omega
 .omega
 omega
def Zn(X:Env): ∀n,(uK X n).le (uK X (n+1))
 |0=>by intro f c S r h;simp[uK]at h
 |n+1=>Gv (Zn X n)
def pU(X:Env)(h:n<=m):(uK X n).le (uK X m):=by
 induction h with
 |refl=>intro f c S r C;omega
 |step _ i=>intro f c S r C;exact Zn X _ _ _ _ _ (i _ _ _ _ C)
open Classical in
noncomputable def ev(X:Env):Ev:=fun f c S=>if h: ∃n,∃r,uK X n f c S=some r then some h.choose_spec.choose else none
def tp{X:Env}{f c S r}:ev X f c S=some r↔ ∃n,uK X n f c S=some r:=by
 unfold ev;constructor
 .intro h;split at h
  .grind
  grind
 .rintro⟨n,W⟩;have hx: ∃n,∃r,uK X n f c S=some r:=⟨n,r,W⟩;rw[dif_pos hx];have K:=hx.choose_spec.choose_spec;have T:=pU X (yK n hx.choose) _ _ _ _ W;have a:=pU X (yY n hx.choose) _ _ _ _ K
  grind
def Vw(X:Env)(n:Nat):(uK X n).le (ev X):=fun _ _ _ _ h=>tp.2 ⟨n,h⟩
def nq{X:Env}{g a h k r}(C:dV X (ev X) g a h k=some r): ∃n,dV X (uK X n) g a h k=some r:=by
 unfold dV at C;have L:X.pO g=none:=by
  cases L:X.pO g with
  |none=>rfl
  |some p=>grind
 simp only[L]at C;split at C
 .rename_i fn f;split at C
  .rename_i b i;cases e:ev X g b ⟨pS a,h,k⟩ with
   |none=>simp[e,xf]at C
   |some x=>
    obtain⟨n,W⟩:=tp.1 e;exact⟨n,by unfold dV;grind⟩
  grind
 grind
def QR{X:Env}{g bxb r}(C:qK X (dV X (ev X)) g bxb=some r): ∃n,qK X (dV X (uK X n)) g bxb=some r:=by
 unfold qK at C;cases m:X.pO g with
 |none=>
  simp only[m]at C;obtain⟨n,W⟩:=nq C;exact⟨n,by unfold qK;grind⟩
 |some p=>
  simp only[m]at C;cases i:p.run (dV X (ev X)) bxb with
  |none=>grind
  |some v=>
   rw[i]at C;obtain⟨n,W⟩:=p.cont (fun n=>dV X (uK X n)) _ bxb v (fun n=>kY (pU X (Nat.le_succ n))) (fun _ _ _ _ _ h=>nq h) i;exact⟨n,by unfold qK;grind⟩
def Vx{X:Env}{cR dst g args S r}(h:wG X (dV X (ev X)) cR dst g args S=some r): ∃n,wG X (dV X (uK X n)) cR dst g args S=some r:=by
 unfold wG at h;split at h
 case h_2=>grind
 rename_i id s;cases o:S.h id with
 |none=>grind
 |some ob=>
  simp only[o]at h;split at h
  case h_2=>grind
  rename_i e C;split at h
  case isFalse=>grind
  rename_i k;split at h
  case h_2=>grind
  rename_i R G;split at h
  case h_2=>grind
  rename_i bxb h1 T;cases i:dV X (ev X) g (.ptr 0 0 0::bxb) (mY X g ob.k R) (1+(X.gy g).length) with
  |none=>grind
  |some x=>
   obtain⟨n,W⟩:=nq i;rw[i]at h;exact⟨n,by unfold wG;grind⟩
def Nu{X:Env}{cR dst g args S r}(h:np X (dV X (ev X)) cR dst g args S=some r): ∃n,np X (dV X (uK X n)) cR dst g args S=some r:=by
 unfold np at h;split at h
 case h_2=>grind
 rename_i bxb h1 T;cases i:dV X (ev X) g bxb (fun _=>none) 0 with
 |none=>grind
 |some x=>
  obtain⟨n,W⟩:=nq i;rw[i]at h;exact⟨n,by unfold np;grind⟩
def Nv{X:Env}{cR dst g args S r}(h:iv X (dV X (ev X)) cR dst g args S=some r): ∃n,iv X (dV X (uK X n)) cR dst g args S=some r:=by
 unfold iv at h;cases h1:X.clone g with
 |some t=>exact⟨0,cp⟩
 |none=>
  simp only[h1]at h;by_cases K:(X.ja g&& !X.low g)=true
  .simp only[K,if_true]at h;cases i:dV X (ev X) g args S.h S.n with
   |none=>grind
   |some x=>
    obtain⟨n,W⟩:=nq i;rw[i]at h;exact⟨n,cp⟩
  .simp only[K,if_false,r3]at h;by_cases E:X.iu g=true
   .simp only[E,if_true]at h;obtain⟨n,W⟩:=Vx h;exact⟨n,cp⟩
   simp only[E,if_false,r3]at h;by_cases J:(!(dst.elim [] (X.mask cR)).isEmpty)=true
   .simp only[J,if_true]at h;obtain⟨n,W⟩:=Nu h;exact⟨n,cp⟩
   simp only[J,if_false,r3]at h;cases T:di (args.map (da S.h depth)) with
   |none=>grind
   |some bxb=>
    simp only[T]at h;by_cases a:(dst.any (X.pz cR)&& !X.low g)=true
    .simp only[a,if_true]at h;cases i:dV X (ev X) g (ft bxb) (fun _=>none) S.n with
     |none=>grind
     |some x=>
      obtain⟨n,W⟩:=nq i;rw[i]at h;exact⟨n,cp⟩
    .simp only[a,if_false,r3]at h;cases i:qK X (dV X (ev X)) g (ft bxb) with
     |none=>grind
     |some x=>
      obtain⟨n,W⟩:=QR i;rw[i]at h;exact⟨n,cp⟩
def Nw{X:Env}{cR n0 j o S r}(h:fD X (dV X (ev X)) cR n0 j o S=some r): ∃n,fD X (dV X (uK X n)) cR n0 j o S=some r:=by
 unfold fD at h;split at h
 .rename_i x args m e;split at h
  .rename_i g first Lp hx
   obtain⟨n,W⟩:=Nv h;exact⟨n,by unfold fD;grind⟩
  grind
 .rename_i k;exact⟨0,by unfold fD;grind⟩
def vc{X:Env}{cR dF n0}: ∀{k l S r},gZ X (dV X (ev X)) cR dF n0 k l S=some r-> ∃n,gZ X (dV X (uK X n)) cR dF n0 k l S=some r
 |_,[],S,r,h=>⟨0,h⟩
 |k,o::l,S,r,h=>by
  have two: ∀{S1},fD X (dV X (ev X)) cR n0 k o S=some S1->gZ X (dV X (ev X)) cR dF n0 (k+1) l S1=some r-> ∃n,fD X (dV X (uK X n)) cR n0 k o S=some S1/\gZ X (dV X (uK X n)) cR dF n0 (k+1) l S1=some r:=by
   intro S1 h1 K;obtain⟨a,W⟩:=Nw h1;obtain⟨b,e⟩:=vc K;exact⟨max a b,zB (kY (pU X (yK a b))) W,oL (kY (pU X (yY a b))) e⟩
  unfold gZ at h;split at h
  .rename_i g;split at h
   .exact p6
   grind
  .rename_i j w g;split at h
   .rename_i d u;split at h
    .rename_i b N;split at h
     .rename_i i;split at h
      .exact p6
      grind
     .rename_i i;obtain⟨n,Y⟩:=vc h;exact⟨n,gD⟩
    .rename_i Z;obtain⟨n,Y⟩:=vc h;refine⟨n,?_⟩;unfold gZ
     grind
    grind
   grind
def lL.cont{X:Env}{cR ops n0 S0 S1}: ∀{l},lL X (dV X (ev X)) cR ops n0 S0 S1 l-> ∃n,lL X (dV X (uK X n)) cR ops n0 S0 S1 l
 | [],_=>⟨0,fun q u=>aj⟩
 |q::l,h=>by
  obtain⟨a,W⟩:=lL.cont (l:=l) fun x hx=>h x (u' _ hx);rcases h q (t5 ..) with k|⟨o,T,v,h1,K,S⟩
  .refine⟨a,fun x hx=> ?_⟩;rcases List.mem_cons.1 hx with rfl|hx
   .grind
   .exact W x hx
  obtain⟨b,e⟩:=vc K;refine⟨max a b,fun x hx=> ?_⟩;rcases List.mem_cons.1 hx with rfl|hx
  .exact .inr ⟨o,T,v,h1,oL (kY (pU X (yY a b))) e,S⟩
  .exact W.mono (kY (pU X (yK a b))) x hx
def QS{X:Env}{f c S r}(h:kN X (ev X) f c S=some r): ∃n,kN X (uK X n) f c S=some r:=by
 have j: ∀{a b:Code} {S S1 r},ev X f a S=some (.normal,S1)->ev X f b S1=some r-> ∃n,uK X n f a S=some (.normal,S1)/\uK X n f b S1=some r:=by
  intro a b S S1 r h1 K;obtain⟨p,o⟩:=tp.1 h1;obtain⟨q,u⟩:=tp.1 K;exact⟨max p q,pU X (yK p q) _ _ _ _ o,pU X (yY p q) _ _ _ _ u⟩
 cases c with
 |skip=>exact⟨0,h⟩
 |exit id=>exact⟨0,h⟩
 |ret=>exact⟨0,h⟩
 |region id ops d=>
  simp only[kN]at h⊢;split at h
  case h_2=>grind
  split at h
  .rename_i S1 h1;split at h
   .rename_i s;obtain⟨n,W⟩:=vc h1;obtain⟨m,O⟩:=s.cont;refine⟨max n m,?_⟩;rw[oL (kY (pU X (yK n m))) W];simp only[O.mono (kY (pU X (yY n m))),if_true];omega
   grind
  grind
 |seq a b=>
  simp only[kN]at h⊢;cases Y:ev X f a S with
  |none=>grind
  |some x=>
   obtain⟨e,S1⟩:=x;rw[Y]at h;cases e with
   |normal=>
    grind
   |exit i=>obtain⟨n,W⟩:=tp.1 Y;grind
   |ret=>obtain⟨n,W⟩:=tp.1 Y;grind
 |cond x a b=>
  simp only[kN]at h⊢;split at h
  .split at h
   .rename_i t;obtain⟨n,W⟩:=tp.1 h;grind
   .rename_i t;obtain⟨n,W⟩:=tp.1 h;grind
  grind
 |block id b=>
  simp only[kN]at h⊢;cases g:ev X f b S with
  |none=>grind
  |some x=>obtain⟨n,W⟩:=tp.1 g;grind
 |loop b=>
  simp only[kN]at h⊢;split at h
  case h_2=>grind
  rename_i D N;cases g:ev X f b D with
  |none=>grind
  |some x=>
   obtain⟨e,S1⟩:=x;rw[g]at h;cases e with
   |normal=>
    grind
   |exit i=>obtain⟨n,W⟩:=tp.1 g;grind
   |ret=>obtain⟨n,W⟩:=tp.1 g;grind
 |_=>simp[kN]at h
def Es(X:Env)(f:FuncId)(c:Code)(S:St):ev X f c S=kN X (ev X) f c S:=by
 cases h:kN X (ev X) f c S with
 |some r=>
  obtain⟨n,W⟩:=QS h;exact tp.2 ⟨n+1,W⟩
 |none=>
  cases K:ev X f c S with
  |none=>rfl
  |some r=>
   obtain⟨n,W⟩:=tp.1 K;cases n with
   |zero=>simp[uK]at W
   |succ n=>
    have:=Gv (Vw X n) _ _ _ _ W
    grind
noncomputable def df(X:Env):jv:=dV X (ev X)
noncomputable def cG(X:Env)(g:FuncId)(args:List V):Option V:=
 match qK X (df X) g args with
 |some (v,h,_)=>(da h depth v).map V.l6
 |none=>none
end Go.Abs
