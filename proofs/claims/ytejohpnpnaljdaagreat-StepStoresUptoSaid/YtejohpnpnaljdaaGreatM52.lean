/- Part of a proof: G5. -/
import Derived.Test.YtejohpnpnaljdaaGreatM31
import Derived.Test.YtejohpnpnaljdaaGreatM51
set_option linter.all false
set_option maxRecDepth 20000
set_option maxHeartbeats 20000000
namespace Go.Proofs.YtejohpnpnaljdaaGreat
open Go Go.Abs Go.Abs.lu
theorem Gp{p:Prog}{t:Nat}{upto:Int}{k:Nat}{m:bf}(h: ¬(hZ p m t).2= -1):dI p t upto (k+1) m=hZ p m t:=by rw[dI,if_neg h]
theorem Wg{p:Prog}{t:Nat}{upto:Int}{k:Nat}{m:bf}(h:(hZ p m t).2= -1)(hc:(cg (hZ p m t).1 t).count=upto):dI p t upto (k+1) m=((hZ p m t).1,0):=by
 rw[dI,if_pos h];exact if_pos hc
theorem C2{p:Prog}{t:Nat}{upto:Int}{k:Nat}{m:bf}(h:(hZ p m t).2= -1)(hc: ¬(cg (hZ p m t).1 t).count=upto):dI p t upto (k+1) m=dI p t upto k (hZ p m t).1:=by
 rw[dI,if_pos h];exact if_neg hc
theorem C3{p:Prog}{d:Int}{m:bf}(H:cR p d m){t:Nat}(ht:t<4){u:Int}(hc:(cg m t).count<u):1<=oD u (cg m t):=by
 have:=(H.cg ht).pc;unfold oD;omega
theorem yP{p:Prog}{d u:Int}{t:Nat}(ht:t<4)(hd:u<=d): ∀(f g:Nat) (m:bf),cR p d m->(cg m t).count<u->oD u (cg m t)<=f->oD u (cg m t)<=g->dI p t u f m=dI p t u g m
 |0,g,m,H,hc,h1,h2=>by have:=C3 H ht hc;omega
 |f+1,0,m,H,hc,h1,h2=>by have:=C3 H ht hc;omega
 |f+1,g+1,m,H,hc,h1,h2=>by
  by_cases ho:(hZ p m t).2= -1
  case neg=>rw[Gp ho,Gp ho]
  have hl:=sF H ht ho u;by_cases he:(cg (hZ p m t).1 t).count=u
  ·rw[Wg ho he,Wg ho he]
  ·rw[C2 ho he,C2 ho he];exact yP ht hd f g _ (yp H ht (by omega)) (by omega) (by omega) (by omega)
theorem QB{p:Prog}{d:Int}{m:bf}(H:cR p d m){t:Nat}(ht:t<4):(hZ p m t).2= -1\/(hZ p m t).2=1\/(hZ p m t).2=2:=(uU H (H.cg ht)).stop
theorem AH{p:Prog}{d u1 u2:Int}{t:Nat}(ht:t<4)(Ei:u1<u2)(hd:u2<=d): ∀(f:Nat) (m:bf),cR p d m->(cg m t).count<u1->oD u2 (cg m t)<=f->
  ((dI p t u1 f m).2≠0->dI p t u2 f m=dI p t u1 f m)/\
  ((dI p t u1 f m).2=0->(cg (dI p t u1 f m).1 t).count=u1/\ ∀g:Nat,oD u2 (cg (dI p t u1 f m).1 t)<=g->dI p t u2 f m=dI p t u2 g (dI p t u1 f m).1)
 |0,m,H,hc,h1=>by have:=C3 H ht (u:=u2) (by omega);omega
 |f+1,m,H,hc,h1=>by
  by_cases ho:(hZ p m t).2= -1
  case neg=>
   rw[Gp ho,Gp ho];refine⟨fun _=>rfl,fun h0=> ?_⟩;have:=QB H ht;omega
  have hl:=sF H ht ho u2;have H1:=yp H ht (by omega);by_cases he:(cg (hZ p m t).1 t).count=u1
  ·rw[Wg ho he];refine⟨fun h=>absurd rfl h,fun _=>⟨he,fun g hg=> ?_⟩⟩;rw[C2 ho (by omega)];exact yP ht hd f g _ H1 (by omega) (by omega) hg
  ·rw[C2 ho he,C2 ho (by omega)];exact AH ht Ei hd f _ H1 (by omega) (by omega)
theorem zP{p:Prog}{m:bf}{t:Nat}{n:Int}(hs:(cg m t).state=1):dm p m t n=dI p t ((cg m t).count+n) 20000 m:=by
 have e0:m.threads.getD t da=cg m t:=rfl;unfold dm;rw[e0,if_pos hs]
theorem Ml{p:Prog}{c:Int}{m:bf}(H:cR p c m){t:Nat}(ht:t<4){n k:Int}(hn:1<=n)(hk:1<=k)(hnk:n+k<=64)(hs:(cg m t).state=1):
  ((dm p m t n).2≠0->dm p m t (n+k)=dm p m t n)/\
  ((dm p m t n).2=0->(cg (dm p m t n).1 t).count=(cg m t).count+n/\dm p (dm p m t n).1 t k=dm p m t (n+k)):=by
 have hx:=H.cg ht;have hd:(cg m t).count+(n+k)<=c+(n+k):=by have:=hx.count;omega
 have Gq:=hx.pc;have key:=AH (p:=p) (d:=c+(n+k)) (u1:=(cg m t).count+n) (u2:=(cg m t).count+(n+k)) ht (by omega) hd 20000 m (H.mono (by omega)) (by omega) (by unfold oD;omega);rw[zP hs,zP hs];refine⟨key.1,fun h0=> ?_⟩;obtain⟨e1,e2⟩:=key.2 h0;have hg:=xh (p:=p) (d:=c+n) (upto:=(cg m t).count+n) ht (by have:=hx.count;omega) 20000 m (H.mono (by omega)) (by omega) hs;refine⟨e1,?_⟩;have Xv:=hg.YG h0;have bbm:=(hg.yq.cg ht).pc;rw[zP Xv,e1,e2 20000 (by unfold oD;rw[e1];omega),Int.add_assoc]
theorem ahk{p:Prog}{d:Int}{m:bf}(h:cR p d m)(hd:d<=1099511627776){n:Int}(hn:1<=n/\n<=64):pr p m 0 n=((dm p m 0 n).1,(dm p m 0 n).2,0):=cR.one h hd (t:=0) (by omega) hn
@[simp] theorem Jv(l:List Int)(n k:Int)(hl:l.length<=2000000): ∃h' k',cy X 4 [l,n,k] m8 0=some (.bool true,h',k'):=by
 suffices H: ∃v h' k',cy X 4 [.sl false (l.map (V.int .i64)),.int .i64 n,.int .i64 k] m8 0=some (v,h',k')/\v= .bool true by
  obtain⟨v,h',k',e,rfl⟩:=H;exact⟨h',k',e⟩
 have JE:dr l 0:=⟨by omega,by omega⟩;obtain⟨kt,⟨pc,ps,pd⟩,d,⟨⟨mb,mk⟩,⟨mc,ml⟩,mt⟩,hM,sj,HG,JD,iZ⟩:=Z5 l 0 JE;simp only[Z1]at hM;have oP:mt.length=4:=HG.len;have Z6:0<mt.length:=by omega
 obtain⟨N,hN⟩: ∃N,1+n % 8=N:=⟨_,rfl⟩;obtain⟨K,hK⟩: ∃K,1+k % 8=K:=⟨_,rfl⟩;have hN1:1<=N/\N<=8:=by omega
 have hK1:1<=K/\K<=8:=by omega
 have wN:IntKind.i64.wrap (1+n % 8)=N:=by rw[hN];exact wrap_i64 (by omega)
 have wK:IntKind.i64.wrap (1+k % 8)=K:=by rw[hK];exact wrap_i64 (by omega)
 have wNK:IntKind.i64.wrap (N+K)=N+K:=wrap_i64 (by omega);have S1:=sU pc ps pd mb mk mc ml mt 0 N HG.prog.lens HG.lens HG.R;have S2:=sU pc ps pd mb mk mc ml mt 0 (N+K) HG.prog.lens HG.lens HG.R;rw[ahk HG (by omega) (n:=N) (by omega)]at S1;rw[ahk HG (by omega) (n:=N+K) (by omega)]at S2;have two:=Ml HG (t:=0) (by omega) hN1.1 hK1.1 (by omega) iZ;have ga:=(sG HG (t:=0) (by omega) hN1.1 iZ).yq;have gc:=(sG HG (t:=0) (by omega) (n:=N+K) (by omega) iZ).yq;have hm0:cg ⟨⟨mb,mk⟩,⟨mc,ml⟩,mt⟩ 0=mt[0]:=ie Z6;rw[hm0]at two;obtain⟨⟨a,s⟩,ha⟩: ∃a,dm ⟨pc,ps,pd⟩ ⟨⟨mb,mk⟩,⟨mc,ml⟩,mt⟩ 0 N=a:=⟨_,rfl⟩;obtain⟨⟨c,u⟩,hc⟩: ∃a,dm ⟨pc,ps,pd⟩ ⟨⟨mb,mk⟩,⟨mc,ml⟩,mt⟩ 0 (N+K)=a:=⟨_,rfl⟩;rw[ha]at S1 ga two;rw[hc]at S2 gc two;simp only at S1 S2 ga gc two;have ha4:a.threads.length=4:=ga.len;have W3:c.threads.length=4:=gc.len;have qx:=ga.lens;have hw:=QA;have hcx:=(HG.nv 0 Z6).count;simp only at hcx;refine bu (X:=X) (K:=fun v _ _=>v= .bool true) Tryz.func4 rfl rfl ?_;by_cases hs:s=0
 ·obtain⟨q1,q2⟩:=two.2 hs;subst hs;have S3:=fun ab ak ac al at'=>sU pc ps pd ab ak ac al at' 0 K HG.prog.lens;have Gc:cg a 0=a.threads[0]:=ie (by omega);rw[Gc]at q1;have S4:=ahk ga (by omega) (n:=K) (by omega);rw[q2]at S4;simp only at S4;have gaR:=ga.R;obtain⟨⟨ab,ak⟩,⟨ac,al⟩,at'⟩:=a;simp only at S1 ha4 q1;have S3:=sU pc ps pd ab ak ac al at' 0 K HG.prog.lens qx gaR;rw[S4]at S3;obtain⟨⟨cb,ck⟩,⟨cc,cl⟩,ct⟩:=c;simp only at S2 S3 W3;have mM:=gc.lens;have wq:IntKind.i64.wrap ((mt[0]).count+N)=(mt[0]).count+N:=wrap_i64 (by omega);simp-implicitDefEqProofs[acn,hM,wN,wK,wNK,S1,S2,S3,ha4,W3,hw,mM,oP,q1,wq]
 ·have e:=two.1 hs;simp only[aF]at e;obtain⟨rfl,rfl⟩:=e;obtain⟨⟨ab,ak⟩,⟨ac,al⟩,at'⟩:=c;simp only at S1 S2 W3;simp-implicitDefEqProofs[acn,hM,wN,wK,wNK,S1,S2,ha4,hw,qx,hs]
end Go.Proofs.YtejohpnpnaljdaaGreat
