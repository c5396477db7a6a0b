/- Part of a proof: F20. -/
import Derived.Test.YtejohpnpnaljdaaGreatM43
import Derived.Test.YtejohpnpnaljdaaGreatM45
set_option linter.all false
set_option maxRecDepth 20000
set_option maxHeartbeats 20000000
namespace Go.Proofs.YtejohpnpnaljdaaGreat
open Go Go.Abs Go.Abs.lu
theorem Gj(v:V)(vs:List V):uq .bad (v::vs)=v:=rfl
noncomputable def cV(g:FuncId)(args:List V)(h:aY)(k:Nat):V:=match cy X g args h k with|some (v,_,_)=>v|none=> .bad
theorem aoi{g:FuncId}{args:List V}{h h':aY}{k k':Nat}{v:V}(e:cy X g args h k=some (v,h',k')):cV g args h k=v:=by
 unfold cV;rw[e]
def pv(j:Nat)(v:V):V:=match v with| .de [.agg cs,_]=>cs.getD j .bad|_=> .bad
def pt(v:V):Nat:=match pv 4 v with| .bU T _ _=>T|_=>0
def pb(v:V):Bool:=match v with| .de [_,.bool b]=>b|_=>false
theorem gr.cl{p:Prog}{d:Int}{lay:aN}{h:aY}{k:Nat}{S:Nat->Prop}{args:List V}(H: ∃v h' k',cy X 202 args h k=some (v,h',k')/\gr p d lay h k S v h' k'):
  cy X 202 args h k=some (.de [.agg [pv 0 (cV 202 args h k),.int .u16 lay.key,pv 2 (cV 202 args h k),pv 3 (cV 202 args h k),.bU (pt (cV 202 args h k)) 0 4],.bool (pb (cV 202 args h k))],cH 202 args h k,cK 202 args h k)/\
  ∃(S':Nat->Prop) (wM:List V) (m':bf),jM (cH 202 args h k) (cK 202 args h k) S' (pt (cV 202 args h k)) (pv 0 (cV 202 args h k)) (pv 2 (cV 202 args h k)) (pv 3 (cV 202 args h k)) wM m'/\cR p d m'/\m'.layout=lay/\k<=cK 202 args h k/\(∀i,i<k->cH 202 args h k i=h i)/\ ∀i,S' i->S i\/k<=i:=by
 obtain⟨v,h',k',e,b,S',T',Y6,Y7,Y8,wM,m',rfl,HM,HG,hl,hk,hf,hS⟩:=H;obtain⟨e1,e2⟩:=tS e;have e3:=aoi e;rw[e1,e2,e3];refine⟨?_,S',wM,m',HM,HG,hl,hk,hf,hS⟩;rw[e,hl];rfl
def ag4(p:Prog)(d:Int)(lay:aN)(n:Nat)(v:V)(h':aY)(k':Nat):Prop:=
 v= .de []/\ ∃(o:cN) (l:bR) (js:List Int) (S:Nat->Prop) (T:Nat) (vB vC vL:V) (es:List V) (m:bf) (R:Nat) (rc:List Entry) (J:Nat),sT p d lay o l js h' k' 0 S T vB vC vL es m R rc J/\pQ o/\gY l/\rc.length<=n
structure Mc (p:Prog) (d:Int) (lay:aN) (k:Nat) (S:Nat->Prop) (h h1:aY) (k1:Nat) (S1:Nat->Prop) (T:Nat) (vB vC vL:V) (es:List V) (m:bf):Prop where
 own:jM h1 k1 S1 T vB vC vL es m
 Jo:cR p d m
 lay:m.layout=lay
 le:k<=k1
 fr: ∀i,i<k->h1 i=h i
 sub: ∀i,S1 i->S i\/k<=i
theorem gr.fn{p:Prog}{d:Int}{lay:aN}{k:Nat}{S:Nat->Prop}{args:List V}{P:aY->Prop}(m0:bf)(H: ∀h,P h-> ∃v h' k',cy X 202 args h k=some (v,h',k')/\gr p d lay h k S v h' k'):
  ∃(fB fC fL:aY->V) (fT fK:aY->Nat) (fb:aY->Bool) (fH:aY->aY) (fS:aY->Nat->Prop) (fE:aY->List V) (fM:aY->bf),∀h,P h->
   cy X 202 args h k=some (.de [.agg [fB h,.int .u16 lay.key,fC h,fL h,.bU (fT h) 0 4],.bool (fb h)],fH h,fK h)/\Mc p d lay k S h (fH h) (fK h) (fS h) (fT h) (fB h) (fC h) (fL h) (fE h) (fM h):=by
 have g: ∀h,∃(S':Nat->Prop) (wM:List V) (m':bf),P h->cy X 202 args h k=some (.de [.agg [pv 0 (cV 202 args h k),.int .u16 lay.key,pv 2 (cV 202 args h k),pv 3 (cV 202 args h k),.bU (pt (cV 202 args h k)) 0 4],.bool (pb (cV 202 args h k))],cH 202 args h k,cK 202 args h k)/\
   Mc p d lay k S h (cH 202 args h k) (cK 202 args h k) S' (pt (cV 202 args h k)) (pv 0 (cV 202 args h k)) (pv 2 (cV 202 args h k)) (pv 3 (cV 202 args h k)) wM m':=fun h=>by
  by_cases hp:P h
  ·obtain⟨e,S',wM,m',h1,h2,h3,h4,h5,h6⟩:=gr.cl (H h hp);exact⟨S',wM,m',fun _=>⟨e,h1,h2,h3,h4,h5,h6⟩⟩
  ·exact⟨fun _=>False,[],m0,fun e=>absurd e hp⟩
 obtain⟨fS,g⟩:=Classical.skolem.1 g;obtain⟨fE,g⟩:=Classical.skolem.1 g;obtain⟨fM,g⟩:=Classical.skolem.1 g;exact⟨_,_,_,_,_,_,_,fS,fE,fM,g⟩
theorem Mc.run {p:Prog} {d:Int} {lay:aN} {k:Nat} {S:Nat->Prop} {h h1 hE:aY} {k1 k2:Nat} {S1:Nat->Prop} {T:Nat} {vB vC vL:V} {es:List V} {m:bf} {o:cN} {l:bR} {js:List Int} {R:Nat} {n:Nat} (r0 J:Nat) (rc:List Entry)
  (H:Mc p d lay k S h h1 k1 S1 T vB vC vL es m) (h0:hE 0=some ⟨18,[wg p vB lay.key vC vL T o l R n J],true⟩) (hn:rc.length=n) (hR:hE R=some ⟨18,rc.map Entry.e,false⟩) (hJ:h J=some ⟨1,js.map (V.int .i64),false⟩) (jl:js.length=4)
  (hS: ∀i,S i->i≠0/\i≠r0/\i≠J) (hk:0<J/\J<k/\r0<k/\r0≠J) (wy:k1<=R/\R<k2) (he: ∀i,i<k1-> ¬i=0-> ¬i=r0->hE i=h1 i):sT p d lay o l js hE k2 0 S1 T vB vC vL es m R rc J:=by
 obtain⟨HM,HG,hl,hle,hf,hs⟩:=H;have eX:=HM.lt;have sS: ∀i,S1 i-> ¬i=0/\ ¬i=r0/\ ¬i=J/\i<k1:=fun i hi=>by
  have:=eX i hi;rcases hs i hi with e|e
  ·obtain⟨a,b,c⟩:=hS i e;exact⟨a,b,c,this⟩
  ·exact⟨by omega,by omega,by omega,this⟩
 subst hn;refine⟨h0,HM.mono (by omega) fun i hi=> ?_,HG,hl,hR,?_,jl,⟨by omega,by omega,by omega⟩,⟨by omega,by omega,by omega⟩,fun e=>(sS 0 e).1 rfl,fun e=> ?_,fun e=>(sS _ e).2.2.1 rfl⟩
 ·obtain⟨e1,e2,e3,e4⟩:=sS i hi;exact he i e4 e1 e2
 ·rw[he J (by omega) (by omega) (by omega),hf J (by omega),hJ]
 ·have:=(sS _ e).2.2.2;omega
theorem ZQ.J7{p:Prog}{d:Int}{lay:aN}{o:cN}{l:bR}{js:List Int}{h h':aY}{k k':Nat}{S:Nat->Prop}{R J n n':Nat}(H:ZQ p d lay o l js h k 0 S R J n h' k')(ho:pQ o)(hl:gY l)(hn:n<=n'):
  ∃(o:cN) (l:bR) (js:List Int) (S:Nat->Prop) (T:Nat) (vB vC vL:V) (es:List V) (m:bf) (R:Nat) (rc:List Entry) (J:Nat),sT p d lay o l js h' k' 0 S T vB vC vL es m R rc J/\pQ o/\gY l/\rc.length<=n':=by
 obtain⟨S',T',Y6,Y7,Y8,wM,m',R',rc',HR,e,_⟩:=H;exact⟨o,l,js,S',T',Y6,Y7,Y8,wM,m',R',rc',J,HR,ho,hl,by omega⟩
theorem sT.back{p:Prog}{d:Int}{lay:aN}{o:cN}{l:bR}{js:List Int}{h:aY}{k:Nat}{S:Nat->Prop}{T:Nat}{vB vC vL:V}{es:List V}{m:bf}{R:Nat}{rc:List Entry}{J:Nat}(H:sT p d lay o l js h k 0 S T vB vC vL es m R rc J):
  xJ X [(0,16,233),(0,17,3),(0,7,52)] (.de []) h=some (18,.agg [.sl false (p.code.map Instr.e),.sl false (p.ae.map (V.int .i64)),.sl false (p.data.map aS),.sl false (m.layout.aD.map (V.int .i64)),.int .u16 m.layout.key,.sl false (m.memory.cells.map Cell.e),.sl false (m.memory.lines.map cx.e),.sl false (m.threads.map Thread.e),
   .sl false (o.clock.map (V.int .u16)),.sl false (o.random.map (V.int .u16)),.sl false (o.cO.map aS),.sl false (o.files.data.map ba),.sl false (o.files.opens.map dT.e),.sl false (o.cT.map Output.e),.sl false (l.owner.map (V.int .i64)),.sl false (l.queue.map cI),.sl false (rc.map Entry.e),.sl false (js.map (V.int .i64))],[]):=by
 obtain⟨hb,HO,HG,nb,hR,hJ,sx,eX,iK,Ql⟩:=H;have hT:=HO.row;have nT0: ¬T=0:=fun e=>Ql.1 (e▸HO.Vs);have nTR: ¬T=R:=fun e=>Ql.2.1 (e▸HO.Vs);have nTJ: ¬T=J:=fun e=>Ql.2.2 (e▸HO.Vs);have nRT: ¬R=T:=fun e=>nTR e.symm;have nJT: ¬J=T:=fun e=>nTJ e.symm;have nR0: ¬R=0:=fun e=>iK.1 e.symm;have nJ0: ¬J=0:=fun e=>iK.2.1 e.symm;have nRJ: ¬R=J:=iK.2.2;have nJR: ¬J=R:=fun e=>iK.2.2 e.symm;obtain⟨i1,i2,i3,i4⟩:=HO.dy (aO (aO (aO (aO h 0 none) T none) J none) R none) (fun i hi PC=>by
  have a1: ¬i=0:=fun e=>Ql.1 (e▸hi);have a2: ¬i=R:=fun e=>Ql.2.1 (e▸hi);have a3: ¬i=J:=fun e=>Ql.2.2 (e▸hi);simp[aO,a1,a2,a3,PC]) 9
 simp only[Nat.reduceAdd]at i1 i2 i3 i4;have te:=VY HO.len;have tj: ∀(f:Int->V),List.take 4 (js.map f)=js.map f:=fun f=>bn (by simp;omega);have su:=HO.len;unfold wg at hb;rw[nb]at i1;simp(maxSteps:=10000000) -implicitDefEqProofs[hb,hT,hR,hJ,sx,su,nT0,nRT,nJT,nR0,nJ0,nRJ,te,tj,i1,i2,i3,i4,<-nb]
@[simp] theorem V6(bB:List Instr)(bw:List Int)(bC:List (List Int))(aE:List Int)(aG:Int)(aH:List Cell)(aJ:List cx)(aA:List Thread)(bz bg:List Int)(bh:List (List Int))(aP:List (List Canon))(aM:List dT)(aX:List Output)(bF:List Int)(bG:List (List Int))(cu:List Entry)(cF:List Int)(fk rm rn oO CT iN:Int)(ke nE:List Canon)(d:Int)(HG:cR ⟨bB,bw,bC⟩ d ⟨⟨aE,aG⟩,⟨aH,aJ⟩,aA⟩)(hd:d<=1099511627776)(ho:pQ ⟨bz,bg,bh,⟨aP,aM⟩,aX⟩)(hl:gY ⟨bF,bG⟩)(hj:cF.length=4)(hrc:cu.length<=900000)(qO:0<=fk/\fk<4)(fJ:ke.length<=3)(VK:nE.length<=16)(Db:(iN=8\/iN=9\/iN=11)->1<=ke.length)(DG:fe ke)(hdv:fe nE): ∃(m2:bf) (o2:cN) (l2:bR) (wG:List Int) (DP:List Entry),lZ X [(0,16,233),(0,17,3),(0,7,52)] 179 18 (.agg [bB,bw,bC,aE,.int .u16 aG,aH,aJ,aA,.sl false (bz.map (V.int .u16)),.sl false (bg.map (V.int .u16)),bh,aP,aM,aX,bF,.sl false (bG.map cI),cu,cF]) [.agg [fk,rm,rn,oO,CT,iN,ke,nE]]=some (18,.agg [.sl false (bB.map Instr.e),.sl false (bw.map (V.int .i64)),.sl false (bC.map aS),.sl false (m2.layout.aD.map (V.int .i64)),.int .u16 m2.layout.key,.sl false (m2.memory.cells.map Cell.e),.sl false (m2.memory.lines.map cx.e),.sl false (m2.threads.map Thread.e),.sl false (o2.clock.map (V.int .u16)),.sl false (o2.random.map (V.int .u16)),.sl false (o2.cO.map aS),.sl false (o2.files.data.map ba),.sl false (o2.files.opens.map dT.e),.sl false (o2.cT.map Output.e),.sl false (l2.owner.map (V.int .i64)),.sl false (l2.queue.map cI),.sl false (DP.map Entry.e),.sl false (wG.map (V.int .i64))],[],.de [])/\cR ⟨bB,bw,bC⟩ d m2/\m2.layout=⟨aE,aG⟩/\pQ o2/\gY l2/\wG.length=4/\DP.length<=cu.length+2:=by
 have oP:aA.length=4:=HG.len;have FY: ∀(f:Thread->V),List.take 4 (aA.map f)=aA.map f:=fun f=>bn (by simp;omega);have PL: ∀(f:Thread->Option V),List.take 4 (aA.map f)=aA.map f:=fun f=>bn (by simp;omega);have Jm: ∀(hx:aY),cn (aA.map (bT hx 12∘Thread.e))=some (aA.map Thread.e):=fun hx=>m9 (fun _=>rfl) aA;have DN: ∀(f:Int->V),List.take 4 (cF.map f)=cF.map f:=fun f=>bn (by simp;omega);have w0:IntKind.u16.wrap 0=0:=by decide
 obtain⟨⟨oc2,or2,oi2,⟨od2,oo2⟩,ou2⟩,⟨Qg,Qh⟩,wG,⟨⟨x1,x2,x3,x4⟩,x5,x6,x7⟩,hpf,Iz,wL,C8,hxg⟩:=Qf bB bw bC aE aG aH aJ aA bz bg bh aP aM aX bF bG cu cF fk rm rn oO CT iN ke nE oP ho hl hj (by omega) qO fJ VK Db DG hdv;have an6: ∀(f:Int->V),List.take 4 (wG.map f)=wG.map f:=fun f=>bn (by simp;omega);have hx5:x5.length<=1000000000:=by have:=hxg.len;simp only at this;omega
 have main: ∃v h' k',cy X 179 [.ptr 0 0 0,.agg [.int .i64 fk,.int .i64 rm,.int .i64 rn,.int .i64 oO,.int .i64 CT,.int .i64 iN,ke,nE]] (kg X 179 18 (.agg [bB,bw,bC,aE,.int .u16 aG,aH,aJ,aA,.sl false (bz.map (V.int .u16)),.sl false (bg.map (V.int .u16)),bh,aP,aM,aX,bF,.sl false (bG.map cI),cu,cF])) 4=some (v,h',k')/\ag4 ⟨bB,bw,bC⟩ d ⟨aE,aG⟩ (cu.length+2) v h' k':=by
  by_cases c9:iN=9
  case pos=>
   have h0:0<ke.length:=by have:=Db (.inr (.inl c9));omega
   have hv0:=DG _ (List.getElem_mem h0);obtain⟨⟨za,zb,zc,zd⟩,Gz⟩: ∃z,ke[0]=z:=⟨_,rfl⟩;rw[Gz]at hv0;have Cf:IntKind.i64.wrap zb=zb:=wrap_i64 (by have:=hv0.1;have:=hv0.2;simp only at*;omega);have hgr:=IU hl zb fk;obtain⟨⟨lo3,lq3⟩,own,ok3,hG3⟩: ∃l2 own ok,fj ⟨bF,bG⟩ zb fk=(l2,own,ok):=⟨_,_,_,rfl⟩;have ya:=yA bF bG zb fk hl;rw[hG3]at ya hgr;simp only at ya hgr;have c9':=eq_true c9;have w:=gr.fn (P:=fun H=>H 34=some ⟨8,aA.map Thread.e,true⟩) ⟨⟨aE,aG⟩,⟨aH,aJ⟩,aA⟩ fun H h16=>V3 bB bw bC aE aG aH aJ aA fk rm rn oO CT iN ke nE x1 x2 x3 x4 x5 x6 x7 H 53 (fun i=>i=34) 34 _ _ _ _ d (jM.flat (m:=⟨⟨aE,aG⟩,⟨aH,aJ⟩,aA⟩) h16 oP (by omega)) HG hd (by omega) (by omega) DG hxg;obtain⟨fB,fC,fL,fT,fK,fb,fH,fS,fE,fM,key⟩:=w;simp only[]at key;have cl:=fun H a=>(key H a).1;have cf: ∀H:aY,H 34=some ⟨8,aA.map Thread.e,true⟩-> ∀i,i<53->fH H i=H i:=fun H a=>(key H a).2.fr;have ck: ∀H:aY,H 34=some ⟨8,aA.map Thread.e,true⟩->53<=fK H:=fun H a=>(key H a).2.le;have wk: ∀(hE:aY) (kE:Nat),(∃(S:Nat->Prop) (T:Nat) (vB vC vL:V) (es:List V) (m:bf) (R:Nat) (DP:List Entry) (J:Nat),sT ⟨bB,bw,bC⟩ d ⟨aE,aG⟩ ⟨oc2,or2,oi2,⟨od2,oo2⟩,ou2⟩ ⟨Qg,Qh⟩ wG hE kE 0 S T vB vC vL es m R DP J/\DP.length=cu.length+1)->cy X 203 [.ptr 0 0 0,.int .i64 own,.int .u16 0] hE kE=some (.de [],cH 203 [.ptr 0 0 0,.int .i64 own,.int .u16 0] hE kE,cK 203 [.ptr 0 0 0,.int .i64 own,.int .u16 0] hE kE)/\ ∃(o:cN) (l:bR) (ZR:List Int) (S:Nat->Prop) (T:Nat) (vB vC vL:V) (es:List V) (m:bf) (R:Nat) (DP:List Entry) (J:Nat),sT ⟨bB,bw,bC⟩ d ⟨aE,aG⟩ o l ZR (cH 203 [.ptr 0 0 0,.int .i64 own,.int .u16 0] hE kE) (cK 203 [.ptr 0 0 0,.int .i64 own,.int .u16 0] hE kE) 0 S T vB vC vL es m R DP J/\pQ o/\gY l/\DP.length<=cu.length+2:=fun hE kE ⟨S,T,vB,vC,vL,es,m,R,DP,J,HR,hn⟩=>by
    obtain⟨v,h',k',e,rfl,HE⟩:=V5 .bad own 0 _ _ _ _ _ _ hE kE 0 S T vB vC vL es m R DP J HR hd (by omega) (by omega);obtain⟨e1,e2⟩:=tS e;rw[e1,e2];exact⟨e,ZQ.J7 HE Iz wL (by omega)⟩
   by_cases lW:0<=own
   case neg=>
    refine bu (X:=X) Tryz.func179 rfl rfl ?_;simp-implicitDefEqProofs[oP,hj,C8,FY,Jm,DN,c9',h0,Gz,Cf,ya,lW,hpf,Gj,cl,cf];refine⟨⟨by omega,by omega⟩,fun _ _=>⟨rfl,_,_,_,_,_,_,_,_,_,_,_,_,_,Mc.run 32 33 (cu++ [⟨2,fk,0,⟨fk,rm,rn,oO,CT,iN,ke,nE⟩,⟨⟨x1,x2,x3,x4⟩,x5,x6,x7⟩⟩]) (key _ ?_).2 rfl ?_ ?_ ?_ C8 ?_ ?_ ?_ ?_,Iz,wL,?_⟩⟩
    rotate_right; · simp
    ·simp[aO]
    ·simp
    ·simp[aO];rfl
    ·simp[aO]
    ·intro i hi;omega
    ·omega
    ·omega
    ·intro i hi e1 e2;have e5:=Nat.ne_of_lt (Nat.lt_of_lt_of_le hi (Nat.le_add_right _ 11));simp only[aO,e1,e2,e5,if_false]
   refine bu (X:=X) Tryz.func179 rfl rfl ?_;simp-implicitDefEqProofs[oP,hj,C8,FY,Jm,DN,c9',h0,Gz,Cf,ya,lW,hpf,Gj,cl,cf];refine⟨⟨by omega,by omega⟩,fun _ _=> ?_⟩;rw[(wk _ _ ?_).1];simp-implicitDefEqProofs;refine⟨rfl,(wk _ _ ?_).2⟩;all_goals
    refine⟨_,_,_,_,_,_,_,_,cu++ [⟨2,fk,0,⟨fk,rm,rn,oO,CT,iN,ke,nE⟩,⟨⟨x1,x2,x3,x4⟩,x5,x6,x7⟩⟩],33,Mc.run 32 33 _ (key _ ?_).2 rfl ?_ ?_ ?_ C8 ?_ ?_ ?_ ?_,?_⟩
    rotate_right; · simp
    ·simp[aO]
    ·simp
    ·simp[aO];rfl
    ·simp[aO]
    ·intro i hi;omega
    ·omega
    ·omega
    ·intro i hi e1 e2;have e5:=Nat.ne_of_lt (Nat.lt_of_lt_of_le hi (Nat.le_add_right _ 11));simp only[aO,e1,e2,e5,if_false]
  have w:=gr.fn (P:=fun H=>H 16=some ⟨8,aA.map Thread.e,true⟩) ⟨⟨aE,aG⟩,⟨aH,aJ⟩,aA⟩ fun H h16=>V3 bB bw bC aE aG aH aJ aA fk rm rn oO CT iN ke nE x1 x2 x3 x4 x5 x6 x7 H 35 (fun i=>i=16) 16 _ _ _ _ d (jM.flat (m:=⟨⟨aE,aG⟩,⟨aH,aJ⟩,aA⟩) h16 oP (by omega)) HG hd (by omega) (by omega) DG hxg;obtain⟨fB,fC,fL,fT,fK,fb,fH,fS,fE,fM,key⟩:=w;simp only[]at key;have cl:=fun H a=>(key H a).1;have cf: ∀H:aY,H 16=some ⟨8,aA.map Thread.e,true⟩-> ∀i,i<35->fH H i=H i:=fun H a=>(key H a).2.fr;have ck: ∀H:aY,H 16=some ⟨8,aA.map Thread.e,true⟩->35<=fK H:=fun H a=>(key H a).2.le;refine bu (X:=X) Tryz.func179 rfl rfl ?_;simp-implicitDefEqProofs[oP,hj,C8,FY,Jm,DN,c9,hpf,Gj,cl,cf];refine⟨⟨by omega,by omega⟩,fun _ _=>⟨rfl,_,_,_,_,_,_,_,_,_,_,_,_,_,Mc.run 14 15 (cu++ [⟨2,fk,0,⟨fk,rm,rn,oO,CT,iN,ke,nE⟩,⟨⟨x1,x2,x3,x4⟩,x5,x6,x7⟩⟩]) (key _ ?_).2 rfl ?_ ?_ ?_ C8 ?_ ?_ ?_ ?_,Iz,wL,?_⟩⟩
  rotate_right; · simp
  ·simp[aO]
  ·simp
  ·simp[aO];rfl
  ·simp[aO]
  ·intro i hi;omega
  ·omega
  ·omega
  ·intro i hi e1 e2;have e5:=Nat.ne_of_lt (Nat.lt_of_lt_of_le hi (Nat.le_add_right _ 11));simp only[aO,e1,e2,e5,if_false]
 obtain⟨v,h',k',e,rfl,o3,l3,ZR,S3,T3,vB3,vC3,vL3,es3,m3,R3,rc3,J3,HR,ho3,hl3,ag8⟩:=main;refine⟨m3,o3,l3,ZR,rc3,?_,HR.Jo,HR.lay,ho3,hl3,HR.Qk,ag8⟩;unfold lZ;rw[show 1+(X.dM 179).length=4 from rfl,e];simp only[HR.back];rfl
end Go.Proofs.YtejohpnpnaljdaaGreat
