/- Part of a proof: S19. -/
import Derived.Test.YtejohpnpnaljdaaGreatM25
import Derived.Test.YtejohpnpnaljdaaGreatM30
import Derived.Test.YtejohpnpnaljdaaGreatM42
set_option linter.all false
set_option maxRecDepth 20000
set_option maxHeartbeats 20000000
namespace Go.Proofs.YtejohpnpnaljdaaGreat
open Go Go.Abs Go.Abs.lu
@[simp] theorem xm(hx:aY)(l:List Entry):cn (l.map (bT hx 12∘Entry.e))=some (l.map Entry.e):=m9 (fun _=>rfl) l
@[simp] theorem VA(bB:List Instr)(bw:List Int)(bC:List (List Int))(aE:List Int)(aG:Int)(aH:List Cell)(aJ:List cx)(aA:List Thread)(bz bg:List Int)(bh:List (List Int))(aP:List (List Canon))(aM:List dT)(aX:List Output)(bF:List Int)(bG:List (List Int))(cu:List Entry)(cF:List Int)(hR:cu.length<=1000000)(hJ:cF.length<=1000000):lY X [(0,16,233),(0,17,3)] 176 [.agg [bB,bw,bC,aE,.int .u16 aG,aH,aJ,aA,.sl false (bz.map (V.int .u16)),.sl false (bg.map (V.int .u16)),bh,aP,aM,aX,bF,.sl false (bG.map cI),cu,cF]]=some (.agg [.sl false (((rH.mk (Prog.mk bB bw bC) (bf.mk (aN.mk aE aG) (aK.mk aH aJ) aA) (cN.mk bz bg bh (bE.mk aP aM) aX) (bR.mk bF bG) cu cF)).program.code.map Instr.e),.sl false (((rH.mk (Prog.mk bB bw bC) (bf.mk (aN.mk aE aG) (aK.mk aH aJ) aA) (cN.mk bz bg bh (bE.mk aP aM) aX) (bR.mk bF bG) cu cF)).program.ae.map (V.int .i64)),.sl false (((rH.mk (Prog.mk bB bw bC) (bf.mk (aN.mk aE aG) (aK.mk aH aJ) aA) (cN.mk bz bg bh (bE.mk aP aM) aX) (bR.mk bF bG) cu cF)).program.data.map aS),.sl false (((rH.mk (Prog.mk bB bw bC) (bf.mk (aN.mk aE aG) (aK.mk aH aJ) aA) (cN.mk bz bg bh (bE.mk aP aM) aX) (bR.mk bF bG) cu cF)).machine.layout.aD.map (V.int .i64)),.int .u16 ((rH.mk (Prog.mk bB bw bC) (bf.mk (aN.mk aE aG) (aK.mk aH aJ) aA) (cN.mk bz bg bh (bE.mk aP aM) aX) (bR.mk bF bG) cu cF)).machine.layout.key,.sl false (((rH.mk (Prog.mk bB bw bC) (bf.mk (aN.mk aE aG) (aK.mk aH aJ) aA) (cN.mk bz bg bh (bE.mk aP aM) aX) (bR.mk bF bG) cu cF)).machine.memory.cells.map Cell.e),.sl false (((rH.mk (Prog.mk bB bw bC) (bf.mk (aN.mk aE aG) (aK.mk aH aJ) aA) (cN.mk bz bg bh (bE.mk aP aM) aX) (bR.mk bF bG) cu cF)).machine.memory.lines.map cx.e),.sl false (((rH.mk (Prog.mk bB bw bC) (bf.mk (aN.mk aE aG) (aK.mk aH aJ) aA) (cN.mk bz bg bh (bE.mk aP aM) aX) (bR.mk bF bG) cu cF)).machine.threads.map Thread.e),.sl false (((rH.mk (Prog.mk bB bw bC) (bf.mk (aN.mk aE aG) (aK.mk aH aJ) aA) (cN.mk bz bg bh (bE.mk aP aM) aX) (bR.mk bF bG) cu cF)).outside.clock.map (V.int .u16)),.sl false (((rH.mk (Prog.mk bB bw bC) (bf.mk (aN.mk aE aG) (aK.mk aH aJ) aA) (cN.mk bz bg bh (bE.mk aP aM) aX) (bR.mk bF bG) cu cF)).outside.random.map (V.int .u16)),.sl false (((rH.mk (Prog.mk bB bw bC) (bf.mk (aN.mk aE aG) (aK.mk aH aJ) aA) (cN.mk bz bg bh (bE.mk aP aM) aX) (bR.mk bF bG) cu cF)).outside.cO.map aS),.sl false (((rH.mk (Prog.mk bB bw bC) (bf.mk (aN.mk aE aG) (aK.mk aH aJ) aA) (cN.mk bz bg bh (bE.mk aP aM) aX) (bR.mk bF bG) cu cF)).outside.files.data.map ba),.sl false (((rH.mk (Prog.mk bB bw bC) (bf.mk (aN.mk aE aG) (aK.mk aH aJ) aA) (cN.mk bz bg bh (bE.mk aP aM) aX) (bR.mk bF bG) cu cF)).outside.files.opens.map dT.e),.sl false (((rH.mk (Prog.mk bB bw bC) (bf.mk (aN.mk aE aG) (aK.mk aH aJ) aA) (cN.mk bz bg bh (bE.mk aP aM) aX) (bR.mk bF bG) cu cF)).outside.cT.map Output.e),.sl false (((rH.mk (Prog.mk bB bw bC) (bf.mk (aN.mk aE aG) (aK.mk aH aJ) aA) (cN.mk bz bg bh (bE.mk aP aM) aX) (bR.mk bF bG) cu cF)).sB.owner.map (V.int .i64)),.sl false (((rH.mk (Prog.mk bB bw bC) (bf.mk (aN.mk aE aG) (aK.mk aH aJ) aA) (cN.mk bz bg bh (bE.mk aP aM) aX) (bR.mk bF bG) cu cF)).sB.queue.map cI),.sl false (((rH.mk (Prog.mk bB bw bC) (bf.mk (aN.mk aE aG) (aK.mk aH aJ) aA) (cN.mk bz bg bh (bE.mk aP aM) aX) (bR.mk bF bG) cu cF)).record.map Entry.e),.sl false (((rH.mk (Prog.mk bB bw bC) (bf.mk (aN.mk aE aG) (aK.mk aH aJ) aA) (cN.mk bz bg bh (bE.mk aP aM) aX) (bR.mk bF bG) cu cF)).qP.map (V.int .i64))]):=by
 refine kJ Tryz.func176 rfl rfl ?_;simp-implicitDefEqProofs;all_goals ((repeat' (first|apply And.intro|intro _))<;>first|omega|rfl)
@[simp] theorem acn(l:List Int)(h:aY)(k:Nat):cy X 19 [l] h k=some (.ptr (k+3) 0 0,aO h (k+3) (some ⟨2,[.agg [.sl false (l.map (V.int .i64)),.int .i64 0]],true⟩),k+5):=by
 obtain⟨v,h',n',e1,e2,e3,e4⟩:=bu (X:=X) (g:=19) (args:=[.sl false (l.map (V.int .i64))]) (h:=h) (k:=k) (K:=fun v h' n'=>v= .ptr (k+3) 0 0/\h'=aO h (k+3) (some ⟨2,[.agg [l,.int .i64 0]],true⟩)/\n'=k+5) Tryz.func19 rfl rfl (by
  simp-implicitDefEqProofs[Nat.add_assoc])
 rw[e1,e2,e3,e4]
def mJ(ae:List Int)(l:List Canon):Bool:=l.all (proper ae)
def kL(ae:List Int)(l:List (List Canon)):Bool:=l.all (mJ ae)
theorem CD{z:List Int}{l:List Canon}{i:Nat}(h:i<l.length):mJ z (l.take (i+1))=(mJ z (l.take i)&&proper z l[i]):=tz h
theorem LW{z:List Int}{l:List Canon}{i:Nat}(h:i<l.length)(hp:proper z l[i]=false):mJ z l=false:=r8 h hp
theorem At{z:List Int}{l:List Canon}:mJ z (l.take l.length)=mJ z l:=by rw[List.take_length]
theorem Au{z:List Int}{l:List (List Canon)}{i:Nat}(h:i<l.length):kL z (l.take (i+1))=(kL z (l.take i)&&mJ z l[i]):=tz h
theorem IZ{z:List Int}{l:List (List Canon)}{i:Nat}(h:i<l.length)(hp:mJ z l[i]=false):kL z l=false:=r8 h hp
theorem yE{z:List Int}{l:List (List Canon)}:kL z (l.take l.length)=kL z l:=by rw[List.take_length]
@[simp] theorem VB(ae:List Int)(aU:List (List Canon))(aR:List dT)(h1:aU.length<=1000000000)(h2: ∀i (h:i<aU.length),(aU[i]).length<=1000000000):cz X 171 [ae,.agg [aU,aR]]=some (.bool (kL ae aU)):=by
 refine bd Tryz.func171 rfl rfl ?_;simp-implicitDefEqProofs;refine cP (fun i S=>(S.f 0= .sl false (ae.map (V.int .i64))/\S.f 10= .sl false (aU.map ba)/\S.f 11= .int .i64 ((aU).length:Int)/\S.f 12= .int .i64 (i:Int)/\S.n=1100)/\(kL ae (aU.take i)=true)) (aU.length) ?_ 0 (by simp) ?_
 ·rintro i S kY ⟨dA,hX⟩;have eY:=cS i (by omega);by_cases bI:i<aU.length
  ·have g:=h2 i bI;simp-implicitDefEqProofs[dA,bI];refine cP (fun j S=>(S.f 0= .sl false (ae.map (V.int .i64))/\S.f 10= .sl false (aU.map ba)/\S.f 11= .int .i64 ((aU).length:Int)/\S.f 12= .int .i64 (i:Int)/\S.f 16= .sl false ((aU[i]).map Canon.e)/\S.f 17= .int .i64 (((aU[i]).length:Int))/\S.f 18= .int .i64 (j:Int)/\S.n=1100)/\(mJ ae ((aU[i]).take j)=true)) ((aU[i]).length) ?_ 0 (by simp) ?_
   ·rintro j S jk ⟨mW,uN⟩;have pM:=cS j (by omega);by_cases fX:j<(aU[i]).length
    ·have up:=CD (z:=ae) fX;rw[uN]at up;cases q:proper ae (aU[i])[j] with
     |false=>
      have hb:=IZ bI (LW fX q);simp-implicitDefEqProofs[mW,fX,q,hb]
     |true=>
      rw[q]at up;simp-implicitDefEqProofs[mW,pM,fX,q,up]
    ·have xO:(aU[i]).length=j:=by omega
     subst xO;rw[At]at uN;have up:=Au (z:=ae) bI;rw[hX,uN]at up;simp-implicitDefEqProofs[bI,mW,up,eY];try omega
   ·simp-implicitDefEqProofs[dA]<;>(
     rfl)
  ·have ko:aU.length=i:=by omega
   subst ko;simp-implicitDefEqProofs[dA]<;>(
    rw[yE]at hX;simp[hX])
 ·simp-implicitDefEqProofs<;>(
   rfl)
def wg(p:Prog)(vB:V)(key:Int)(vC vL:V)(T:Nat)(o:cN)(l:bR)(R n J:Nat):V:= .agg [.sl false (p.code.map Instr.e),.sl false (p.ae.map (V.int .i64)),.sl false (p.data.map aS),vB,.int .u16 key,vC,vL,.bU T 0 4,
 .sl false (o.clock.map (V.int .u16)),.sl false (o.random.map (V.int .u16)),.sl false (o.cO.map aS),.sl false (o.files.data.map ba),.sl false (o.files.opens.map dT.e),.sl false (o.cT.map Output.e),
 .sl false (l.owner.map (V.int .i64)),.sl false (l.queue.map cI),.bU R 0 n,.bU J 0 4]
structure sT (p:Prog) (d:Int) (lay:aN) (o:cN) (l:bR) (js:List Int) (h:aY) (k b:Nat) (S:Nat->Prop) (T:Nat) (vB vC vL:V) (es:List V) (m:bf) (R:Nat) (rc:List Entry) (J:Nat):Prop where
 box:h b=some ⟨18,[wg p vB lay.key vC vL T o l R rc.length J],true⟩
 own:jM h k S T vB vC vL es m
 Jo:cR p d m
 lay:m.layout=lay
 record:h R=some ⟨18,rc.map Entry.e,false⟩
 qP:h J=some ⟨1,js.map (V.int .i64),false⟩
 Qk:js.length=4
 lt:b<k/\R<k/\J<k
 ne:b≠R/\b≠J/\R≠J
 off: ¬S b/\ ¬S R/\ ¬S J
def ZQ(p:Prog)(d:Int)(lay:aN)(o:cN)(l:bR)(js:List Int)(h:aY)(k b:Nat)(S:Nat->Prop)(R J n:Nat)(h':aY)(k':Nat):Prop:=
 ∃S' T' Y6 Y7 Y8 wM m' R' rc',sT p d lay o l js h' k' b S' T' Y6 Y7 Y8 wM m' R' rc' J/\rc'.length=n/\k<=k'/\k<=R'/\(∀i,S' i->S i\/k<=i)/\ ∀i,i<k->i≠b->i≠R->h' i=h i
theorem DO(t n:Int):Entry.e ⟨4,t,0,⟨0,0,0,0,0,0,[],[]⟩,⟨⟨0,n,0,0⟩,[], -1,false⟩⟩= .agg [.int .i64 4,.int .i64 t,.int .i64 0,.int .i64 0,.int .i64 0,.int .i64 0,.int .i64 0,.int .i64 0,.int .i64 0,.sl false [],.sl false [],.int .u8 0,.int .u16 n,.int .i64 0,.int .i64 0,.sl false [],.int .i64 (-1),.bool false]:=rfl
@[simp] theorem V5(r:V)(t n:Int)(p:Prog)(d:Int)(lay:aN)(o:cN)(l:bR)(js:List Int)(h:aY)(k b:Nat)(S:Nat->Prop)(T:Nat)(vB vC vL:V)(es:List V)(m:bf)(R:Nat)(rc:List Entry)(J:Nat)(H:sT p d lay o l js h k b S T vB vC vL es m R rc J)(hd:d<=1099511627776)(hn:0<=n/\n<=65535)(hrc:rc.length<=1000000): ∃v h' k',cy X 203 [.ptr b 0 0,t,.int .u16 n] h k=some (v,h',k')/\v= .de []/\ZQ p d lay o l js h k b S R J (rc.length+1) h' k':=by
 have hb:=H.box;unfold wg at hb;have nO:IntKind.i64.wrap n=n:=wrap_i64 (by omega);have hwu:IntKind.u16.wrap n=n:=wrap_u16 hn;obtain⟨l1,l2,l3⟩:=H.lt;obtain⟨n1,n2,n3⟩:=H.ne;obtain⟨f1,f2,f3⟩:=H.off;have av7:=H.record;have hjo:=H.qP;obtain⟨⟨pc,ps,pd⟩,rfl⟩: ∃q,p=q:=⟨_,rfl⟩;obtain⟨⟨⟨mb,mk⟩,⟨mc,ml⟩,mt⟩,rfl⟩: ∃q,m=q:=⟨_,rfl⟩;have nb:=H.lay;simp only at nb;obtain⟨H0,Gi⟩: ∃H0:aY,aO (aO h (k+3) (some ⟨7,[.agg [.int .u8 0,.int .u16 0,.int .i64 0,.int .i64 0,.sl true [],.int .i64 0,.bool false]],true⟩)) (k+3) (some ⟨7,[.agg [.int .u8 0,.int .u16 n,.int .i64 0,.int .i64 0,.sl false [],.int .i64 (-1),.bool false]],true⟩)=H0:=⟨_,rfl⟩;have hB0:Below k h H0:=by rw[<-Gi];simp only[bN,bS]
 have HM0:jM H0 (k+23) S T vB vC vL es ⟨⟨mb,mk⟩,⟨mc,ml⟩,mt⟩:=H.own.mono (by omega) fun i hi=>hB0 i (H.own.lt i hi);obtain⟨v1,h1,k1,eW,bb,S1,T1,vB1,vC1,vL1,es1,m1,rfl,HM1,HG1,av8,A5,hf1,hS1⟩:=agz pc ps pd mb mk mc ml mt t 0 n 0 0 [] (-1) false H0 (k+23) S T vB vC vL es d HM0 H.Jo hd ⟨⟨hn.1,hn.2⟩,fe.nil,by simp⟩;rw[<-Gi]at eW;simp only[List.map_nil]at eW;have g1: ∀i,i<k->h1 i=h i:=fun i hi=>by rw[hf1 i (by omega),hB0 i hi]
 have gb:=g1 b l1;rw[hb]at gb;have gR:=g1 R l2;rw[av7]at gR;have g3:h1 (k+3)=some ⟨7,[.agg [.int .u8 0,.int .u16 n,.int .i64 0,.int .i64 0,.sl false [],.int .i64 (-1),.bool false]],true⟩:=by
  rw[hf1 _ (by omega),<-Gi];simp[aO]
 have q1: ∀j,¬b=k+j:=fun j=>by omega
 have q2: ∀j,¬R=k+j:=fun j=>by omega
 have q3: ∀j,¬k+j=b:=fun j=>by omega
 have q4: ∀j,¬k+j=R:=fun j=>by omega
 have r1: ∀j,¬b=k1+j:=fun j=>by omega
 have r2: ∀j,¬R=k1+j:=fun j=>by omega
 have r3: ¬k+3=b:=by omega
 have Nb: ¬R=b:=fun e=>n1 e.symm;refine bu (X:=X) Tryz.func203 rfl rfl ?_;rw[<-nb]at hb gb;simp-implicitDefEqProofs[Nat.add_assoc,hb,nO,hwu,eW,gb,gR,g3,n1,Nb,q1,q3,r1];have hl1:m1.layout=lay:=by rw[av8];exact nb
 have av9:=HM1.lt;have sS: ∀i,S1 i->i≠b/\i≠R/\i≠J/\i<k1:=fun i hi=>by
  have:=av9 i hi;rcases hS1 i hi with e|e
  ·exact⟨fun q=>f1 (q▸e),fun q=>f2 (q▸e),fun q=>f3 (q▸e),this⟩
  ·exact⟨by omega,by omega,by omega,this⟩
 have nR: ∀i,i≠R-> ¬i=R:=fun i h=>h;refine⟨⟨by omega,by omega⟩,fun _ _=>⟨S1,T1,vB1,vC1,vL1,es1,m1,k1+9,rc++ [⟨4,t,0,⟨0,0,0,0,0,0,[],[]⟩,⟨⟨0,n,0,0⟩,[], -1,false⟩⟩],⟨?_,HM1.mono (by omega) fun i hi=> ?_,HG1,hl1,?_,?_,H.Qk,⟨by omega,by omega,by omega⟩,⟨by omega,n2,by omega⟩,fun e=>(sS b e).1 rfl,fun e=> ?_,fun e=>(sS J e).2.2.1 rfl⟩,by simp,by omega,by omega,fun i hi=> ?_,fun i h1 h2 h3=> ?_⟩⟩
 ·simp[aO,wg,hl1]
 ·obtain⟨e1,e2,e3,e4⟩:=sS i hi;have e5: ¬i=k1+9:=by omega
  simp[aO,e1,e2,e5]
 ·have e5: ¬k1+9=b:=by omega
  simp[aO,e5,DO]
 ·have e5: ¬J=k1+9:=by omega
  have e6: ¬J=b:=fun e=>n2 e.symm;have e7: ¬J=R:=fun e=>n3 e.symm;simp only[aO,e5,e6,e7,if_false];rw[g1 J l3];exact hjo
 ·have:=(sS _ e).2.2.2;omega
 ·rcases hS1 i hi with e|e
  ·exact .inl e
  ·exact .inr (by omega)
 ·have e5: ¬i=k1+9:=by omega
  simp only[aO,e5,h2,h3,if_false];exact g1 i h1
end Go.Proofs.YtejohpnpnaljdaaGreat
