/- Part of a proof: S15b. -/
import Derived.Test.YtejohpnpnaljdaaGreatM25
import Derived.Test.YtejohpnpnaljdaaGreatM46
set_option linter.all false
set_option maxRecDepth 20000
set_option maxHeartbeats 20000000
namespace Go.Proofs.YtejohpnpnaljdaaGreat
open Go Go.Abs Go.Abs.lu
def kf(q:List (List Int))(t:Int)(i:Nat):List (List Int):=(q.take i).map (fun x=>nW x t)++q.drop i
theorem Jp(q:List (List Int))(t:Int):kf q t 0=q:=by simp[kf]
theorem CW(q:List (List Int))(t:Int)(i:Nat):(kf q t i).length=q.length:=by simp[kf];omega
theorem Qm{q:List (List Int)}{t:Int}{i:Nat}(h:i<q.length)(h':i<(kf q t i).length):(kf q t i)[i]=q[i]:=by
 have e:(kf q t i)[i]?=some q[i]:=by
  unfold kf;rw[List.getElem?_append_right (by simp;omega),List.length_map,List.length_take,Nat.min_eq_left (Nat.le_of_lt h),Nat.sub_self,drop_cons h];rfl
 rw[List.getElem?_eq_getElem h']at e;exact Option.some.inj e
theorem Md{q:List (List Int)}{t:Int}{i:Nat}(h:i<q.length):(kf q t i).set i (nW q[i] t)=kf q t (i+1):=by
 unfold kf;have e:((q.take i).map (fun x=>nW x t)).length=i:=by simp;omega
 rw[List.set_append_right _ _ (by omega),e,Nat.sub_self,drop_cons h,List.set_cons_zero,fY h,List.map_append];simp
theorem Me(q:List (List Int))(t:Int):kf q t q.length=q.map fun x=>nW x t:=by simp[kf]
theorem AE(l:bR)(t:Int):gF l t 0=(⟨l.owner,l.queue.map fun q=>nW q t⟩,[]):=rfl
theorem EX(l:bR)(t:Int)(i:Nat):gF l t (i+1)=((fj (gF l t i).1 i t).1,if(fj (gF l t i).1 i t).2.2=true/\0<=(fj (gF l t i).1 i t).2.1 then(gF l t i).2++ [(fj (gF l t i).1 i t).2.1] else(gF l t i).2):=rfl
@[simp] theorem Gk(bJ:List Int)(bp:List (List Int))(t:Int)(h:gY (bR.mk bJ bp)):cz X 204 [.agg [bJ,.sl false (bp.map cI)],t]=some (.de [.agg [.sl false (((gF (bR.mk bJ bp) t 4).1).owner.map (V.int .i64)),.sl false (((gF (bR.mk bJ bp) t 4).1).queue.map cI)],.sl false (((gF (bR.mk bJ bp) t 4).2).map (V.int .i64))]):=by
 refine bd Tryz.func204 rfl rfl ?_;have h1:bJ.length=4:=h.xi;have h2:bp.length=4:=h.xj;obtain⟨h3,h4⟩:=h.lens;simp only at h3 h4;simp-implicitDefEqProofs[h1,h2,h4];refine cP (fun i S=>(S.f 1= .int .i64 t/\S.f 4= .ptr 4 0 0/\S.h 4=some ⟨2,[.agg [.sl false (([]:List Int).map (V.int .i64)),.sl false (([]:List (List Int)).map cI)]],true⟩/\S.f 6= .ptr 6 0 0/\S.h 1000=some ⟨1,(⟨bJ,kf bp t i⟩:bR).queue.map cI,false⟩/\S.h 6=some ⟨2,[.agg [.sl false ((⟨bJ,kf bp t i⟩:bR).owner.map (V.int .i64)),.bU 1000 0 ((⟨bJ,kf bp t i⟩:bR).queue.map cI).length]],true⟩/\S.f 20= .bU 1000 0 4/\S.f 21= .int .i64 ((4:Int))/\S.f 22= .int .i64 (i:Int)/\S.n=1101)/\True) (4) ?_ 0 (by simp) ?_
 ·rintro i S kY ⟨dA,hX⟩;have eY:=cS i (by omega);by_cases bI:i<4
  ·have hl:i<bp.length:=by omega
   have q1:=(h.queue i hl).len;have r1:=CW bp t i;have r2:i<(kf bp t i).length:=by omega
   have r3:=Qm (t:=t) hl r2;have r4:=Md (t:=t) hl;have i4:(i:Int)<4:=by omega
   rw[h2]at r1;simp only at q1;simp-implicitDefEqProofs[dA,bI,r1,r3,i4];refine cP (fun j S=>(S.f 1= .int .i64 t/\S.f 4= .ptr 4 0 0/\S.h 4=some ⟨2,[.agg [.sl false (([]:List Int).map (V.int .i64)),.sl false (([]:List (List Int)).map cI)]],true⟩/\S.f 6= .ptr 6 0 0/\S.h 1000=some ⟨1,(⟨bJ,kf bp t i⟩:bR).queue.map cI,false⟩/\S.h 6=some ⟨2,[.agg [.sl false ((⟨bJ,kf bp t i⟩:bR).owner.map (V.int .i64)),.bU 1000 0 ((⟨bJ,kf bp t i⟩:bR).queue.map cI).length]],true⟩/\S.f 7= .int .i64 ((i:Int))/\S.f 9= .bU 9 0 (((nW ((bp[i]).take j) t).map (V.int .i64))).length/\S.h 9=some ⟨1,((nW ((bp[i]).take j) t).map (V.int .i64)),false⟩/\S.f 20= .bU 1000 0 4/\S.f 21= .int .i64 ((4:Int))/\S.f 22= .int .i64 (i:Int)/\S.f 27= .sl false ((bp[i]).map (V.int .i64))/\S.f 28= .int .i64 (((bp[i]).length:Int))/\S.f 29= .int .i64 (j:Int)/\S.n=1101)/\True) ((bp[i]).length) ?_ 0 (by simp) ?_
   ·rintro j S jk ⟨mW,uN⟩;have pM:=cS j (by omega);by_cases fX:j<(bp[i]).length
    ·by_cases hx:(bp[i])[j]=t
     ·have e:=Vi fX hx;have AL:=eq_true hx;simp-implicitDefEqProofs[mW,pM,fX,AL,e]
     ·have e:=PO fX hx;have hl:(nW ((bp[i]).take j) t).length<=4:=by have:=PQ ((bp[i]).take j) t;simp only[List.length_take]at this;omega
      simp-implicitDefEqProofs[mW,pM,fX,hx,e];all_goals ((repeat' (first|apply And.intro|intro _))<;>first|omega|rfl)
    ·have xO:(bp[i]).length=j:=by omega
     subst xO;have r5:((kf bp t i).map cI).set i (.sl false ((nW bp[i] t).map (V.int .i64)))=(kf bp t (i+1)).map cI:=by rw[<-iV,<-List.map_set,r4]
     have r6:=CW bp t (i+1);rw[h2]at r6;simp-implicitDefEqProofs[bI,mW,r1,r5,r6,i4,Vg,eY];all_goals ((repeat' (first|apply And.intro|intro _))<;>first|omega|rfl)
   ·simp-implicitDefEqProofs[dA]<;>(
     first|rfl|exact⟨rfl,rfl⟩|(simp[r1];rfl)|simp[r1])
  ·have ko:4=i:=by omega
   subst ko;rw[show kf bp t 4=bp.map fun q=>nW q t by rw[<-Me,h2]]at dA;have m1:(bp.map fun q=>nW q t).length=4:=by simp[h2]
   simp-implicitDefEqProofs[dA,h1];refine cP (fun k S=>(S.f 1= .int .i64 t/\S.f 4= .ptr 4 0 0/\S.h 4=some ⟨2,[.agg [.sl false (([]:List Int).map (V.int .i64)),.sl false (([]:List (List Int)).map cI)]],true⟩/\S.f 6= .ptr 6 0 0/\S.h 6=some ⟨2,[.agg [.sl false (((gF (bR.mk bJ bp) t k).1).owner.map (V.int .i64)),.sl false (((gF (bR.mk bJ bp) t k).1).queue.map cI)]],true⟩/\S.f 12= .bU 12 0 ((((gF (bR.mk bJ bp) t k).2).map (V.int .i64))).length/\S.h 12=some ⟨1,(((gF (bR.mk bJ bp) t k).2).map (V.int .i64)),false⟩/\S.f 49= .int .i64 ((4:Int))/\S.f 50= .int .i64 (k:Int)/\S.n=1100)/\True) (4) ?_ 0 (by simp) ?_
   ·rintro k S E6 ⟨zw,Wu⟩;have DA:=cS k (by omega);by_cases jW:k<4
    ·obtain⟨d1,d2,d3⟩:=zE h t k;have k4:(k:Int)<4:=by omega
     have jX:=EX (bR.mk bJ bp) t k;obtain⟨⟨o1,o2⟩,nx,hd⟩: ∃a b,gF (bR.mk bJ bp) t k=(a,b):=⟨_,_,rfl⟩;rw[hd]at d1 d2 d3 zw jX;simp only at d1 d2 d3 jX;obtain⟨⟨g1,g2⟩,gn,gb,hg⟩: ∃a b c,fj ⟨o1,o2⟩ k t=(a,b,c):=⟨_,_,_,rfl⟩;rw[hg]at jX;simp only at jX;cases gb with
     |false=>
      simp-implicitDefEqProofs[zw,DA,jW,k4,d1,hg,jX]
     |true=>
      by_cases hn:0<=gn
      ·simp-implicitDefEqProofs[zw,DA,jW,k4,d1,hg,jX,hn];all_goals ((repeat' (first|apply And.intro|intro _))<;>first|omega|rfl)
      ·simp-implicitDefEqProofs[zw,DA,jW,k4,d1,hg,jX,hn]
    ·have FH:4=k:=by omega
     subst FH;simp-implicitDefEqProofs[zw]
   ·simp-implicitDefEqProofs[dA]<;>(
     simp[AE])
 ·simp-implicitDefEqProofs<;>(
   simp[Jp,h2])
def DQ(p:Prog)(d:Int)(lay:aN)(o:cN)(l:bR)(J:Nat)(js:List Int)(h:aY)(k c:Nat):Prop:=
 ∃(S:Nat->Prop) (T:Nat) (vB vC vL:V) (es:List V) (m:bf) (R:Nat) (rc:List Entry),sT p d lay o l js h k 0 S T vB vC vL es m R rc J/\rc.length=c
theorem DQ.mono{p:Prog}{d:Int}{lay:aN}{o:cN}{l:bR}{J:Nat}{js:List Int}{h h':aY}{k k' c:Nat}(H:DQ p d lay o l J js h k c)(hk:k<=k')(hh: ∀i,i<k->h' i=h i):DQ p d lay o l J js h' k' c:=by
 obtain⟨S,T,vB,vC,vL,es,m,R,rc,⟨h1,h2,h3,h4,h5,h6,h7,h8,h9,vE⟩,e⟩:=H;have:=h2.lt;exact⟨S,T,vB,vC,vL,es,m,R,rc,⟨by rw[hh _ h8.1,h1],h2.mono hk fun i hi=>hh i (this i hi),h3,h4,by rw[hh _ h8.2.1,h5],by rw[hh _ h8.2.2,h6],h7,⟨by omega,by omega,by omega⟩,h9,vE⟩,e⟩
theorem DQ.aok{p:Prog}{d:Int}{lay:aN}{o:cN}{l:bR}{J:Nat}{js:List Int}{h:aY}{k c:Nat}(H:DQ p d lay o l J js h k c)(hd:d<=1099511627776)(t n:Int)(hn:0<=n/\n<=65535)(hc:c<=1000000):
  ∃h' k',cy X 203 [.ptr 0 0 0,t,.int .u16 n] h k=some (.de [],h',k')/\DQ p d lay o l J js h' k' (c+1)/\k<=k':=by
 obtain⟨S,T,vB,vC,vL,es,m,R,rc,HR,e⟩:=H;obtain⟨v,h',k',e1,rfl,S',T',Y6,Y7,Y8,wM,m',R',rc',Q4,e2,e3,_⟩:=V5 .bad t n _ _ _ _ _ _ h k 0 S T vB vC vL es m R rc J HR hd hn (by omega);exact⟨h',k',e1,⟨S',T',Y6,Y7,Y8,wM,m',R',rc',Q4,by omega⟩,e3⟩
theorem sT.awb {p:Prog} {d:Int} {lay:aN} {o:cN} {l:bR} {js js':List Int} {h h':aY} {k k' b:Nat} {S:Nat->Prop} {T:Nat} {vB vC vL:V} {es:List V} {m:bf} {R:Nat} {rc:List Entry} {J:Nat} (H:sT p d lay o l js h k b S T vB vC vL es m R rc J) (hk:k<=k') (hl:js'.length=4)
  (hJ:h' J=some ⟨1,js'.map (V.int .i64),false⟩) (hh: ∀i,i<k->i≠J->h' i=h i):sT p d lay o l js' h' k' b S T vB vC vL es m R rc J:=by
 obtain⟨h1,h2,h3,h4,h5,h6,h7,h8,h9,vE⟩:=H;have:=h2.lt;exact⟨by rw[hh _ h8.1 h9.2.1,h1],h2.mono hk fun i hi=>hh i (this i hi) fun e=>vE.2.2 (e▸hi),h3,h4,by rw[hh _ h8.2.1 h9.2.2,h5],hJ,hl,⟨by omega,by omega,by omega⟩,h9,vE⟩
theorem DQ.J7{p:Prog}{d:Int}{lay:aN}{o:cN}{l:bR}{J:Nat}{js:List Int}{h:aY}{k c n:Nat}(H:DQ p d lay o l J js h k c)(ho:pQ o)(hl:gY l)(hc:c<=n):ag4 p d lay n (.de []) h k:=by
 obtain⟨S,T,vB,vC,vL,es,m,R,rc,HR,e⟩:=H;exact⟨rfl,o,l,js,S,T,vB,vC,vL,es,m,R,rc,J,HR,ho,hl,by omega⟩
theorem AF{l:bR}(h:gY l)(t:Int): ∀i,(gF l t i).2.length<=i
 |0=>by simp[AE]
 |i+1=>by
  have:=AF h t i;rw[EX];simp only;split
  ·simp;omega
  ·omega
@[simp] theorem Nr(bB:List Instr)(bw:List Int)(bC:List (List Int))(aE:List Int)(aG:Int)(aH:List Cell)(aJ:List cx)(aA:List Thread)(bz bg:List Int)(bh:List (List Int))(aP:List (List Canon))(aM:List dT)(aX:List Output)(bF:List Int)(bG:List (List Int))(cu:List Entry)(cF:List Int)(t d:Int)(HG:cR ⟨bB,bw,bC⟩ d ⟨⟨aE,aG⟩,⟨aH,aJ⟩,aA⟩)(hd:d<=1099511627776)(ho:pQ ⟨bz,bg,bh,⟨aP,aM⟩,aX⟩)(hl:gY ⟨bF,bG⟩)(hj:cF.length=4)(hrc:cu.length<=900010)(qO:0<=t/\t<4): ∃(m2:bf) (o2:cN) (l2:bR) (wG:List Int) (DP:List Entry),lZ X [(0,16,233),(0,17,3),(0,7,52)] 180 18 (.agg [bB,bw,bC,aE,.int .u16 aG,aH,aJ,aA,.sl false (bz.map (V.int .u16)),.sl false (bg.map (V.int .u16)),bh,aP,aM,aX,bF,.sl false (bG.map cI),cu,cF]) [t]=some (18,.agg [.sl false (bB.map Instr.e),.sl false (bw.map (V.int .i64)),.sl false (bC.map aS),.sl false (m2.layout.aD.map (V.int .i64)),.int .u16 m2.layout.key,.sl false (m2.memory.cells.map Cell.e),.sl false (m2.memory.lines.map cx.e),.sl false (m2.threads.map Thread.e),.sl false (o2.clock.map (V.int .u16)),.sl false (o2.random.map (V.int .u16)),.sl false (o2.cO.map aS),.sl false (o2.files.data.map ba),.sl false (o2.files.opens.map dT.e),.sl false (o2.cT.map Output.e),.sl false (l2.owner.map (V.int .i64)),.sl false (l2.queue.map cI),.sl false (DP.map Entry.e),.sl false (wG.map (V.int .i64))],[],.de [])/\cR ⟨bB,bw,bC⟩ d m2/\m2.layout=⟨aE,aG⟩/\pQ o2/\gY l2/\wG.length=4/\DP.length<=cu.length+8:=by
 have oP:aA.length=4:=HG.len;obtain⟨⟨Qg,Qh⟩,nx,bU⟩: ∃a b,gF ⟨bF,bG⟩ t 4=(a,b):=⟨_,_,rfl⟩;have ya:=Gk bF bG t hl;have hnx:=AF hl t 4;have wL:=(zE hl t 4).1;rw[bU]at ya hnx wL;simp only at ya hnx wL;obtain⟨tn,rfl⟩:=Int.eq_ofNat_of_zero_le qO.1;have tn4:tn<4:=by omega
 have awd:(tn:Int)<4:=by omega
 have main: ∃v h' k',cy X 180 [.ptr 0 0 0,.int .i64 tn] (kg X 180 18 (.agg [bB,bw,bC,aE,.int .u16 aG,aH,aJ,aA,.sl false (bz.map (V.int .u16)),.sl false (bg.map (V.int .u16)),bh,aP,aM,aX,bF,.sl false (bG.map cI),cu,cF])) 4=some (v,h',k')/\ag4 ⟨bB,bw,bC⟩ d ⟨aE,aG⟩ (cu.length+8) v h' k':=by
  refine bu (X:=X) Tryz.func180 rfl rfl ?_;simp-implicitDefEqProofs[oP,hj,ya];refine cP (fun i S=>(S.f 0= .ptr 0 0 0/\S.f 1= .int .i64 tn/\S.f 23= .sl false (nx.map (V.int .i64))/\S.f 24= .int .i64 nx.length/\S.f 25= .int .i64 i)/\DQ ⟨bB,bw,bC⟩ d ⟨aE,aG⟩ ⟨bz,bg,bh,⟨aP,aM⟩,aX⟩ ⟨Qg,Qh⟩ 2 cF S.h S.n (cu.length+i)) nx.length ?_ 0 (by omega) ?_
  ·rintro i S hi ⟨⟨f0,f1,f23,f24,f25⟩,HI⟩;by_cases eX:i<nx.length
   ·have bI:(i:Int)<nx.length:=by omega
    obtain⟨h2,k2,e2,HI2,wy⟩:=(HI.mono (k':=S.n+7) (h':=S.h) (by omega) fun _ _=>rfl).aok hd (nx[i]) 0 (by omega) (by omega);have hw:IntKind.i64.wrap ((i:Int)+1)=i+1:=wrap_i64 (by omega);simp-implicitDefEqProofs[f0,f1,f23,f24,f25,eX,bI,e2,hw];exact HI2.mono (by omega) fun _ _=>rfl
   ·have bI: ¬(i:Int)<nx.length:=by omega
    have uv:i=nx.length:=by omega
    have HI0:=HI;obtain⟨S0,T,vB,vC,vL,es,m,R,DP,HR,hn⟩:=HI0;have hb:=HR.box;unfold wg at hb;have C8:=HR.qP;simp-implicitDefEqProofs[f0,f24,f25,bI,hb];refine cP (fun i S=>(S.f 0= .ptr 0 0 0/\S.f 1= .int .i64 tn/\S.f 36= .bU 2 0 4/\S.f 37= .int .i64 4/\S.f 38= .int .i64 i)/\ ∃wG c,DQ ⟨bB,bw,bC⟩ d ⟨aE,aG⟩ ⟨bz,bg,bh,⟨aP,aM⟩,aX⟩ ⟨Qg,Qh⟩ 2 wG S.h S.n c/\c<=cu.length+4+i) 4 ?_ 0 (by omega) ?_
    ·rintro u S2 hu ⟨⟨f0,f1,f36,f37,f38⟩,wG,c,HJ,hc⟩;obtain⟨S3,T,vB,vC,vL,es,m,R,DP,HR,hn⟩:=id HJ;have jl:=HR.Qk;have hj3:=HR.qP;by_cases eX:u<4
     case neg=>
      have bI: ¬(u:Int)<4:=by omega
      simp-implicitDefEqProofs[f37,f38,bI];exact(HJ.mono (by omega) fun _ _=>rfl).J7 ho wL (by omega)
     have bI:(u:Int)<4:=by omega
     have hw:IntKind.i64.wrap ((u:Int)+1)=u+1:=wrap_i64 (by omega);have NH:u<wG.length:=by omega
     by_cases hju:wG[u]=tn
     case neg=>
      simp-implicitDefEqProofs[f0,f1,f36,f37,f38,eX,bI,hj3,jl,hju,hw];exact⟨wG,c,HJ.mono (by omega) fun _ _=>rfl,by omega⟩
     have awf:=eq_true hju;have su:=HR.own.len;have uj:=HR.own.af9;have hT:=HR.own.row;have hb:=HR.box;unfold wg at hb;obtain⟨vR,JA⟩:=HR.own.aga tn (by omega) (by omega);obtain⟨⟨z1,z2,z3,z4,z5,z6,z7,z8⟩,hz⟩: ∃z,m.threads[tn]'(by omega)=z:=⟨_,rfl⟩;have NT:=(HR.Jo.nv tn (by omega)).code;rw[hz]at JA NT;simp only at JA NT;have etn:tn<es.length:=by omega
     obtain⟨h2,k2,e2,HI2,wy⟩:=(HJ.mono (k':=S2.n+21) (h':=S2.h) (by omega) fun _ _=>rfl).aok hd u z8 (by omega) (by omega);obtain⟨S4,T4,vB4,vC4,vL4,es4,m4,R4,rc4,HR4,hn4⟩:=id HI2;have hb4:=HR4.box;unfold wg at hb4;have hj4:=HR4.qP;simp-implicitDefEqProofs[f0,f1,f36,f37,f38,eX,bI,hj3,jl,awf,hw,hT,hb,JA,su,tn4,awd,e2,hb4,hj4];exact⟨wG.set u (-1),c+1,⟨S4,T4,vB4,vC4,vL4,es4,m4,R4,rc4,HR4.awb (by omega) (by simp[jl]) (by simp[aO]) (fun i hi hiJ=>by simp[aO,hiJ]),hn4⟩,by omega⟩
    ·simp-implicitDefEqProofs[f0,f1];exact⟨cF,cu.length+i,HI.mono (by omega) fun _ _=>rfl,by omega⟩
  ·simp-implicitDefEqProofs;exact⟨_,3,_,_,_,_,⟨⟨aE,aG⟩,⟨aH,aJ⟩,aA⟩,1,cu,⟨by simp[aO,wg],jM.flat (by simp[aO]) oP (by omega),HG,rfl,by simp[aO],by simp[aO],hj,by omega,by omega,by omega⟩,rfl⟩
 obtain⟨v,h',k',e,rfl,o3,l3,ZR,S3,T3,vB3,vC3,vL3,es3,m3,R3,rc3,J3,HR,ho3,hl3,ag8⟩:=main;refine⟨m3,o3,l3,ZR,rc3,?_,HR.Jo,HR.lay,ho3,hl3,HR.Qk,ag8⟩;unfold lZ;rw[show 1+(X.dM 180).length=4 from rfl,e];simp only[HR.back];rfl
end Go.Proofs.YtejohpnpnaljdaaGreat
