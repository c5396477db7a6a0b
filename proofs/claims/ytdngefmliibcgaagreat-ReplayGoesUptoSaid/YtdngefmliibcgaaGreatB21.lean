import Derived.Test.YtdngefmliibcgaaGreatB20
set_option linter.all false
set_option maxRecDepth 20000
set_option maxHeartbeats 0
namespace Go.Proofs.YtdngefmliibcgaaGreat
open Go Go.Abs Go.Abs.jJ Qf
def yC.MF{B:Nat->Prop}{m:aD}(h:yC B m):yC (fun _=>False) m:=fun r C t S o e b=>h r C t S o e (b.imp id False.elim)
def zc:ac:=⟨0,0⟩
def Mn(r:aN)(v:V)(h:bI):Prop:= ∃vB C L T ids bH k,v=iF vB C L T r/\gA h k vB C L T ids bH r
def Mn.cG{g:FuncId}{args:List V}{r:aN}(H: ∃v h k,df X g args mg 0=some (v,h,k)/\Mn r v h):cG X g args=some (.agg (kW r)):=by
 obtain⟨v,h,k,i,vB,C,L,T,ids,bH,P,rfl,A⟩:=H;have e:qK X (df X) g args=some (iF vB C L T r,h,k):=i;have:=A.eA 6;exact p5
section
variable {h h':bI} {k C L T:Nat} {vB:V} {ids bH:Nat->Nat} {m:aN}
theorem gA.a5i(H:gA h k vB C L T ids bH m){a:Nat}(A:nH a vB C L T ids bH)(b: ∀i,a<=i->i<k->i≠C->(∀j,j<4->i≠ids j)->h' i=h i):
  vB= .sl false (m.am.aK.map (V.int .i64))\/ ∃B,vB= .cX B 0 m.am.aK.length/\h' B=some ⟨1,m.am.aK.map (V.int .i64),false⟩/\(B≠C/\B≠L/\B≠T/\B<k)/\(∀j,j<4->ids j≠B)/\ ∀i,i<4->bH i≠B:=by
 rcases H.aK with e|⟨B,e,v,g,M,U⟩
 .exact .inl e
 .exact .inr ⟨B,e,by rw[b _ (A.2.2 _ _ _ e) g.2.2.2 g.1 fun j q e=>M j q e.symm,v],g,M,U⟩
theorem gA.cells(H:gA h k vB C L T ids bH m){a:Nat}(A:nH a vB C L T ids bH){cs:List ac}(hp:su ⟨cs,m.gt.ge⟩)(q:h' C=some ⟨2,cs.map ac.e,false⟩)(b: ∀i,a<=i->i<k->i≠C->h' i=h i):gA h' k vB C L T ids bH ⟨m.am,⟨cs,m.gt.ge⟩,m.ce⟩:=by
 have l:=H.len;have o:=H.mp.ge;refine⟨hp,⟨q,?_,fun i g=> ?_⟩,H.sep,H.lt,H.a5i A fun i h1 K S _=>b i h1 K S,?_,fun i g=> ?_,l,H.yG,H.afp,H.mL,H.aq6,H.BG⟩
 .rw[b _ A.1.2.1 H.lt.2.1 (ls H.sep.cl)];exact H.mem.ge
 .have j:i<4:=by simp only at g;omega
  rw[b _ (A.2.1 i j).1 (H.lt.2.2 i j) (H.sep.ci i j)];exact H.mem.line i g
 .rw[b _ A.1.2.2 H.yG.2.2 H.yG.1];exact H.lq
 .have j:i<4:=by simp only at g;omega
  rw[b _ (A.2.1 i j).2 (H.mL i j).2.2.2 (H.mL i j).1];exact H.Ad i g
end
def FI.Fz{dl:List Int}{v:V}{h:bI}{k:Nat}(H:FI dl v h k): ∃(kt:Int) (p:g9) (d:Int) (m:aN),
  CK X [] v h=some (2,(pm dl kt:V),Fx p m)/\yt v= .ed []/\fA dl kt/\cJ p d m/\d<=2000:=by
 obtain⟨kt,p,d,T,m,rfl,h0,W,K,z,G,u⟩:=H;refine⟨kt,p,d,m,?_,rfl,z,G,u⟩;have w:m.ce.length=4:=G.len;have n: ∀(f:gc->V),List.take 4 (m.ce.map f)=m.ce.map f:=fun f=>bQ aA;have t: ∀(f:gc->Option V),List.take 4 (m.ce.map f)=m.ce.map f:=fun f=>bQ aA;unfold Fx;simp(maxSteps:=10000000)[h0,W,w,K,n]
end Go.Proofs.YtdngefmliibcgaaGreat
