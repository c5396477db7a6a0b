/- part -/
import Derived.Test.YtdngefmliibcgaaGreatV21
set_option linter.all false
set_option maxRecDepth 20000
set_option maxHeartbeats 20000000
namespace Go.Proofs.YtdngefmliibcgaaGreat
open Go Go.Abs Go.Abs.kI Qf
variable  {b i:Nat}{d t n:Int}{fs now:List cS}{p:Prog}{m m1 m2:aO}{es:List Entry}{q:Request}
@[simp]def ags:bU X 239 []=some (.sl false (cm.map cw.e)):=by
 refine aaA ?_;simp;refine cY (fun i S=>(S.f 1= .cx 1 0 ((zK i)).length/\S.h 1=some ⟨3,(zK i),false⟩/\S.f 5= .int .i64 (4)/\S.f 6=(i:Int)/\S.n=1100)/\True) (4) (by omega) ?_ ?_ ?_
 ·rintro i S ⟨oY,gS,bL⟩ ⟨df,fg⟩;have:i=0\/i=1\/i=2\/i=3:=by omega
  rcases this with rfl|rfl|rfl|rfl<;>simp[df,bL,zK]<;>decide
 ·rintro S ⟨df,fg⟩;simp[df]<;>(
   rfl)
 ·simp<;>(
   exact⟨rfl,rfl⟩)
def Cl(l:List Int):List Cell:=l.map fun v=>⟨0,v⟩
def HN(l:List Int):(Cl l).length=l.length:=by simp[Cl]
@[simp]def agt(l:List Int)(hm:l.length<=100000):bU X 240 [.sl false (l.map (V.int .u16))]=some (.sl false ((Cl l).map Cell.e)):=by
 refine aaA ?_;simp;refine cY (fun i S=>(S.f 3= .cx 3 0 (((Cl (l.take i)).map Cell.e)).length/\S.h 3=some ⟨2,((Cl (l.take i)).map Cell.e),false⟩/\S.f 6= .sl false (l.map (V.int .u16))/\S.f 7=((l).length:Int)/\S.f 8=(i:Int)/\S.n=1100)/\True) (l.length) (by omega) ?_ ?_ ?_
 ·rintro i S ⟨oY,gS,bL⟩ ⟨df,fg⟩;have hl:=HN (l.take i);have up:Cl (l.take (i+1))=Cl (l.take i)++ [⟨0,l[i]⟩]:=by unfold Cl;rw[fD bL,abL];rfl
  obtain⟨N,hN⟩: ∃N,Cl (l.take i)=N:=⟨_,rfl⟩;rw[hN]at hl up;have lS:min i l.length=i:=by omega
  simp only[abR,lS]at hl;simp[df,gS,bL,hN,hl,up,Cell.bS];all_goals ((repeat' (first|apply And.intro|intro _))<;>first|omega|rfl|(exact aZ (by simp;omega)))
 ·rintro S ⟨df,fg⟩;simp[df]
 ·simp[Cl]
def UE(cells:List Cell)(b:Nat)(d:List Int): ∀k,k<=d.length->b+d.length<=cells.length-> ∀i,(tF cells b d k)[i]?=if b<=i/\i<b+k then(cells[i]?).map (fun c=>⟨c.tag,nth d (i-b)⟩) else cells[i]?
 |0,_,_,i=>by rw[WA,if_neg (by omega)]
 |k+1,hk,hl,i=>by
  have ih:=UE cells b d k (by omega) hl;have hlen:=Gv cells b d k;rw[tF,abN];by_cases e:b+k=i
  ·subst e;rw[if_pos rfl,if_pos (by omega),if_pos (by omega)];have h0:(tF cells b d k)[b+k]?=cells[b+k]?:=by rw[ih,if_neg (by omega)]
   have h1:b+k<cells.length:=by omega
   simp only[aaQ,h0,aaJ h1,abV,acq,Nat.add_sub_cancel_left]
  ·rw[if_neg e,ih];by_cases g:b<=i/\i<b+k
   ·rw[if_pos g,if_pos (by omega)]
   ·rw[if_neg g,if_neg (by omega)]
def XQ{cells:List Cell}{d:List Int}(hl:b+d.length<=cells.length)(h0: ∀c∈cells,c.tag=0):tF cells b d d.length=cells.take b++Cl d++cells.drop (b+d.length):=by
 apply abF;intro i;have hb:(cells.take b).length=b:=by simp;omega
 have hn:=HN d;rw[UE _ _ _ _ (aaI _) hl];by_cases g1:i<b
 ·rw[if_neg (by omega),acC,aaW (by omega),adI g1]
 by_cases g2:i<b+d.length
 ·rw[if_pos (by omega),aaW (by simp;omega),aaO (by omega),hb];have h1:i<cells.length:=by omega
  have h2:i-b<d.length:=by omega
  unfold Cl;rw[aaJ h1,abG,aaJ h2,acq,acq,h0 _ (aaL h1),dE h2]
 ·rw[if_neg (by omega),aaO (by simp;omega),abX];congr 1;simp;omega
def HQ{cells:List Cell}{b:Nat}{d:List Int}(h0: ∀c∈cells,c.tag=0): ∀k,∀c∈tF cells b d k,c.tag=0
 |0,c,h=>h0 c h
 |k+1,c,h=>by
  rw[tF]at h;rcases aaX h with h|rfl
  ·exact HQ h0 k c h
  ·simp only[aaQ];cases e:(tF cells b d k)[b+k]? with
   |none=>rfl
   |some x=>exact HQ h0 k x (aaT e)
def Pj(p:Prog)(aD:List Int): ∀r,∀c∈pO p aD r,c.tag=0
 |0,c,h=>by rw[C0]at h;rw[(List.mem_replicate.1 h).2]
 |r+1,c,h=>HQ (Pj p aD r) _ c h
@[simp]def av9(ax:List Instr)(ae:List Int)(ay:List (List Int))(aw:List Int)(bK:Int)(hp:rn (Prog.mk ax ae ay))(hL:nW aw ae):bU X 167 [KKQ ax ae ay,KKc aw bK]=some (.dP [KKA ((⟨pO (Prog.mk ax ae ay) aw ay.length,cm⟩:aF)),.int .i64 0]):=by
 refine aaA ?_;have hz:=hp.an;simp only at hz;have z4:=hz.le;have hlen:ay.length=ae.length:=hp.len;have hb:aw.length=ae.length:=hL.len;have ln:=mO.2 hL;have b1:aw.length<=1000000000/\ae.length<=1000000000:=by omega
 have hle:(cm.map cw.e).length=4:=rfl;simp[ln,b1,hlen];refine cY (fun r S=>(S.f 2= .ptr 2 0 0/\S.h 2=some ⟨3,[KKQ ax ae ay],true⟩/\S.f 3= .ptr 3 0 0/\S.h 3=some ⟨2,[KKc aw bK],true⟩/\S.f 4= .ptr 4 0 0/\S.h 4=some ⟨2,[KKp ([]:List Cell) ([]:List cw)],true⟩/\S.f 6= .ptr 6 0 0/\S.h 1000=some ⟨2,(⟨pO (Prog.mk ax ae ay) aw r,cm⟩:aF).cells.map Cell.e,false⟩/\S.h 6=some ⟨2,[.agg [.cx 1000 0 ((⟨pO (Prog.mk ax ae ay) aw r,cm⟩:aF).cells.map Cell.e).length,.sl false ((⟨pO (Prog.mk ax ae ay) aw r,cm⟩:aF).lines.map cw.e)]],true⟩/\S.f 28=ay/\S.f 29=((ay).length:Int)/\S.f 30=(r:Int)/\S.n=1101)/\True) (ay.length) (by omega) ?_ ?_ ?_
 ·rintro r S ⟨hir,Qb,C1⟩ ⟨df,fg⟩;have r1:r<ae.length:=by omega
  have r2:r<aw.length:=by omega
  have hd:((ay[r]).length:Int)<=ae[r]:=hp.data r C1 r1;have EM: ¬ae[r]<((ay[r]).length:Int):=by omega
  have H7:=hL.base r r2 r1;have hzz:=hz.elem r r1;obtain⟨b,TZ⟩: ∃b:Nat,aw[r]=b:=⟨(aw[r]).toNat,by omega⟩;have H6:=Gw (Prog.mk ax ae ay) aw r;have lu:pO (Prog.mk ax ae ay) aw (r+1)=(pO (Prog.mk ax ae ay) aw r).take b++Cl ay[r]++(pO (Prog.mk ax ae ay) aw r).drop (b+(ay[r]).length):=by
   rw[TY _ _ C1,dE r2,TZ];exact XQ (by simp only;omega) (Pj _ _ r)
  have YT:=HN ay[r];have hnm:(ay[r]).length<=100000:=by omega
  obtain⟨N,hN⟩: ∃N,Cl ay[r]=N:=⟨_,rfl⟩;rw[hN]at YT lu;obtain⟨M,hM⟩: ∃M,pO (Prog.mk ax ae ay) aw r=M:=⟨_,rfl⟩;rw[hM]at H6 lu;obtain⟨n,hn⟩: ∃n,(ay[r]).length=n:=⟨_,rfl⟩;rw[hn]at YT lu hd EM hnm;have bed:b<=512:=by omega
  have lS:min n (512-b)=n:=by omega
  have LY:(0:Int)<=b/\(b:Int)<=512:=by omega
  have tkn:List.take n (N.map Cell.e)=N.map Cell.e:=aZ (by simp;omega);have e3:List.take b (M.map Cell.e)++N.map Cell.e++List.drop (b+n) (M.map Cell.e)=(M.take b++N++M.drop (b+n)).map Cell.e:=by simp[afA,List.map_drop]
  simp[df,Qb,C1,r1,r2,EM,hM,hN,hn,hnm,TZ,H6,YT,lS,LY,bed,tkn,lu];omega
 ·rintro S ⟨df,fg⟩;simp[df]<;>(
   rw[hlen])
 ·simp<;>(
   simp[C0,hlen,Cell.bS])
def xF:Thread:=⟨0,List.replicate 8 ⟨0,0⟩,0,0, -1, -1,0,0⟩
@[simp]def agu:bU X 168 []=some ((KKe xF:V)):=by
 refine aaA ?_;simp[xF,Cell.bS]
@[simp]def ano(ax:List Instr)(ae:List Int)(ay:List (List Int))(aw:List Int)(bK:Int)(hp:rn (Prog.mk ax ae ay))(hL:nW aw ae):bU X 85 [KKQ ax ae ay,KKc aw bK]=some (.dP [KKK (gF (Prog.mk ax ae ay) (Layout.mk aw bK)),.int .i64 0]):=by
 refine aaA ?_;have hz:=hp.an;simp only at hz;have z4:=hz.le;have hlen:ay.length=ae.length:=hp.len;have hb:aw.length=ae.length:=hL.len;have ln:=mO.2 hL;have rH:jr (Prog.mk ax ae ay)=0:=zP hp;have Yi:ax.length<=64:=hp.rp;have b1:aw.length<=1000000000/\ae.length<=1000000000:=by omega
 have b2:ay.length<=1000000000:=by omega
 have b3:ax.length<=1000000000:=by omega
 have b4:aw.length<=4:=by omega
 have hPL:=av9 ax ae ay aw bK hp hL;simp[dI,hPL,rH,b1,b2,b3,gF];all_goals ((repeat' (first|apply And.intro|intro _))<;>first|omega|rfl)
structure S9 (e:Entry):Prop where
 a:e.request.args.length<=1000
 d:e.request.data.length<=1000
 r:e.result.data.length<=1000
structure awa (q:Request):Prop where
 a:q.args.length<=1000
 d:q.data.length<=1000
 av: ∀i (h:i<q.args.length),0<=(q.args[i]).val/\(q.args[i]).val<=65535
 dv: ∀i (h:i<q.data.length),0<=(q.data[i]).val/\(q.data[i]).val<=65535
@[simp]def vN(Ta HU x_n sm uz uA sY xG uB:Int)(rF rG:List Canon)(qB qC oL oM:Int)(sB:List Canon)(uC:Int)(vO:Bool)(h:S9 (Entry.mk Ta HU x_n (Request.mk sm uz uA sY xG uB rF rG) (lO.mk (Canon.mk qB qC oL oM) sB uC vO))):bU X 111 [KKm Ta HU x_n sm uz uA sY xG uB rF rG qB qC oL oM sB uC vO]=some (.bool (!vI (Entry.mk Ta HU x_n (Request.mk sm uz uA sY xG uB rF rG) (lO.mk (Canon.mk qB qC oL oM) sB uC vO)))):=by
 refine aaA ?_;have h1:rF.length<=1000000000:=abK h.a (by omega);have h2:rG.length<=1000000000:=abK h.d (by omega);have h3:sB.length<=1000000000:=abK h.r (by omega);simp[-UD,h1,h2,h3]
@[simp]def ax4(s:List Entry)(hm:s.length<=1000000000)(hE: ∀i (h:i<s.length),S9 s[i]):bU X 183 [s,.fn 111 [] []]=some (.int .i64 (yH vI s)):=by
 refine aaA ?_;simp;refine cY (fun i S=>(S.f 0=s/\S.f 1= .fn 111 [] []/\S.f 7=((s).length:Int)/\S.f 8=(i:Int)/\S.n=1100)/\((s.take i).all vI=true)) (s.length) (by omega) ?_ ?_ ?_
 ·rintro i S ⟨oY,gS,bL⟩ ⟨df,fg⟩;have up:=vt (p:=vI) bL;rw[fg]at up;have hf:=vN (s[i]).kind (s[i]).dd (s[i]).n (s[i]).request.dd (s[i]).request.stop (s[i]).request.dr (s[i]).request.count (s[i]).request.pc (s[i]).request.call (s[i]).request.args (s[i]).request.data (s[i]).result.value.tag (s[i]).result.value.val (s[i]).result.value.region (s[i]).result.value.offset (s[i]).result.data (s[i]).result.spawn (s[i]).result.wait (hE i bL);cases h:vI s[i] with
  |false=>
   have e:=yI bL fg h;have X5:bU X 111 [Entry.e s[i]]=some (.bool true):=by rw[Entry.bS];rw[hf];exact congrArg (fun b=>some (V.bool !b)) h
   simp only[Entry.bS]at X5;simp[df,bL, -vN,X5,e,Entry.bS]
  |true=>
   rw[h]at up;have X5:bU X 111 [Entry.e s[i]]=some (.bool false):=by rw[Entry.bS];rw[hf];exact congrArg (fun b=>some (V.bool !b)) h
   simp only[Entry.bS]at X5;simp[df,gS,bL, -vN,X5,up,Entry.bS]
 ·rintro S ⟨df,fg⟩;simp[df]<;>(
   rw[abC]at fg;exact(wo fg).symm)
 ·simp<;>(
   rfl)
@[simp]def Kv(s:List Entry)(hm:s.length<=1000000000)(hE: ∀i (h:i<s.length),S9 s[i]):bU X 110 [s,.fn 111 [] []]=some (.bool (!(s.all vI))):=by
 refine aaA ?_;simp[hm,hE,wm]
def agv(f:cS)(r k:Int):Bool:=pP f&& (decide (f.dL=r)&&decide (f.time=k))
def Pk(p:Prog)(r k:Int)(s:List cS×aO)(f:cS):List cS×aO:=if agv f r k=true then(s.1++ [f],oK p s.2 f) else s
def nM(p:Prog)(fs:List cS)(r k:Int)(m:aO)(i:Nat):List cS×aO:=(fs.take i).foldl (Pk p r k) ([],m)
def UF(p:Prog)(fs:List cS)(r k:Int)(m:aO):nM p fs r k m 0=([],m):=rfl
def LX(p:Prog)(r k:Int)(m:aO)(h:i<fs.length):nM p fs r k m (i+1)=Pk p r k (nM p fs r k m i) fs[i]:=by unfold nM;rw[fD h,adl];rfl
def Kw(p:Prog)(fs:List cS)(r k:Int)(m:aO)(i:Nat):(nM p fs r k m i).1.length<=i:=by
 induction i with
 |zero=>simp[UF]
 |succ i ih=>
  by_cases h:i<fs.length
  ·rw[LX p r k m h];unfold Pk;split
   ·simp;exact ih
   ·omega
  ·unfold nM at ih⊢;rw[aZ (by omega)]at ih;rw[aZ (by omega)];omega
def Pl{Ok:aO->Prop}(hA: ∀m f,Ok m->Ok (oK p m f))(fs:List cS)(r k:Int)(h:Ok m)(i:Nat):Ok (nM p fs r k m i).2:=by
 induction i with
 |zero=>exact h
 |succ i ih=>
  by_cases g:i<fs.length
  ·rw[LX p r k m g];unfold Pk;split
   ·exact hA _ _ ih
   ·exact ih
  ·unfold nM at ih⊢;rw[aZ (by omega)]at ih;rw[aZ (by omega)];exact ih
def Ae(p:Prog)(C:aO->Entry->aO×Request×Bool)(fs:List cS)(r:Int):List Entry->Int->aO->aO×Int
 | [],k,m=>(m,k)
 |x::es,k,m=>if(C (nM p fs r k m fs.length).2 x).2.2=false\/x.kind=1/\(¬(C (nM p fs r k m fs.length).2 x).2.1=x.request\/ago (C (nM p fs r k m fs.length).2 x).2.1 (nM p fs r k m fs.length).1=false) then((nM p fs r k m fs.length).2,k)
  else Ae p C fs r es (k+1) (C (nM p fs r k m fs.length).2 x).1
def anp:Entry:=⟨0,0,0,xx,⟨⟨0,0,0,0⟩,[],0,false⟩⟩
def Tb(p:Prog)(C:aO->Entry->aO×Request×Bool)(fs:List cS)(r:Int)(es:List Entry)(m:aO):Nat->aO
 |0=>m
 |i+1=>(C (nM p fs r i (Tb p C fs r es m i) fs.length).2 (es.getD i anp)).1
def a41(p:Prog)(C:aO->Entry->aO×Request×Bool)(fs:List cS)(r:Int)(es:List Entry)(m:aO):Tb p C fs r es m 0=m:=rfl
def a42(p:Prog)(C:aO->Entry->aO×Request×Bool)(fs:List cS)(r:Int)(m:aO)(h:i<es.length):Tb p C fs r es m (i+1)=(C (nM p fs r i (Tb p C fs r es m i) fs.length).2 es[i]).1:=by
 rw[Tb];simp[List.getD,h]
def a43(p:Prog)(C:aO->Entry->aO×Request×Bool)(Ok Ok':aO->Prop)(g:FuncId)(e:Entry):Prop:= ∀m,Ok m->bU X g [KKi p,KKK m,
  (KKj e:V)]=
 some (.dP [KKK (C m e).1,
  (KKW (C m e).2.1:V),.bool (C m e).2.2])/\Ok' (C m e).1/\awa (C m e).2.1
def XR (p:Prog) (C:aO->Entry->aO×Request×Bool) (fs:List cS) (r k:Int) (m:aO)   (h:i<es.length)    {b:Bool}
  (h1:nM p fs r k m fs.length=(now,m1)) (h2:C m1 es[i]=(m2,q,b)):Ae p C fs r (es.drop i) k m=if b=false\/(es[i]).kind=1/\(¬q=(es[i]).request\/ago q now=false) then(m1,k) else Ae p C fs r (es.drop (i+1)) (k+1) m2:=by
 rw[acH h,Ae,h1];simp only[h2]
@[simp]def Eh(ax:List Instr)(ae:List Int)(ay:List (List Int))(aw:List Int)(bK:Int)(entries:List Entry)(dW:List cS)(dL:Int)(C:aO->Entry->aO×Request×Bool)(Ok:Nat->aO->Prop)(m0:aO)(hSt:bU X 85 [KKQ ax ae ay,KKc aw bK]=some (.dP [KKK m0,.int .i64 0]))(beg:entries.all vI=true)(hEL: ∀i (h:i<entries.length),S9 entries[i])(hen:entries.length<=1000000)(hfn:dW.length<=1000000)(hOk: ∀i m,Ok i m-> ∃d,cT (Prog.mk ax ae ay) d m/\d<=1099511627776)(hA: ∀i m f,Ok i m->Ok i (oK (Prog.mk ax ae ay) m f))(hC: ∀i (h:i<entries.length),a43 (Prog.mk ax ae ay) C (Ok i) (Ok (i+1)) 21 entries[i])(h0:Ok 0 m0):bU X 54 [KKQ ax ae ay,KKc aw bK,.sl false (entries.map Entry.e),.sl false (dW.map cS.e),.int .i64 dL]=some (.dP [KKK ((Ae (Prog.mk ax ae ay) C dW dL entries 0 m0).1),.int .i64 ((Ae (Prog.mk ax ae ay) C dW dL entries 0 m0).2)]):=by
 refine aaA ?_;have beh:entries.length<=1000000000:=by omega
 have hcf:=Kv entries beh hEL;rw[beg]at hcf;simp[-Kv,hSt,hcf];refine cY (fun i S=>(S.f 2=entries/\S.f 3= .sl false (dW.map cS.e)/\S.f 4= .int .i64 dL/\S.f 5= .ptr 5 0 0/\S.h 5=some ⟨3,[KKi ((Prog.mk ax ae ay))],true⟩/\S.f 10= .ptr 10 0 0/\S.h 10=some ⟨5,[KKK iT],true⟩/\S.f 12= .ptr 12 0 0/\S.h 12=some ⟨5,[KKK (Tb (Prog.mk ax ae ay) C dW dL entries m0 i)],true⟩/\S.f 35= .sl false ((entries).map Entry.e)/\S.f 36= .int .i64 ((entries.length:Int))/\S.f 37= .int .i64 ((i:Int))/\S.n=1100)/\(Ae (Prog.mk ax ae ay) C dW dL entries 0 m0=Ae (Prog.mk ax ae ay) C dW dL (entries.drop i) i (Tb (Prog.mk ax ae ay) C dW dL entries m0 i)/\Ok i (Tb (Prog.mk ax ae ay) C dW dL entries m0 i))) (entries.length) (by omega) ?_ ?_ ?_
 ·rintro i S ⟨oY,gS,bL⟩ ⟨df,fg⟩;obtain⟨hR,hM⟩:=fg;have us:=a42 (Prog.mk ax ae ay) C dW dL m0 bL;obtain⟨m1,sV⟩: ∃x,Tb (Prog.mk ax ae ay) C dW dL entries m0 i=x:=⟨_,rfl⟩;rw[sV]at hR hM us;simp[df,bL];refine cY (fun j S=>(S.f 2=entries/\S.f 3= .sl false (dW.map cS.e)/\S.f 4= .int .i64 dL/\S.f 5= .ptr 5 0 0/\S.h 5=some ⟨3,[KKi ((Prog.mk ax ae ay))],true⟩/\S.f 10= .ptr 10 0 0/\S.h 10=some ⟨5,[KKK iT],true⟩/\S.f 12= .ptr 12 0 0/\S.h 12=some ⟨5,[KKK ((nM (Prog.mk ax ae ay) dW dL i m1 j).2)],true⟩/\S.f 14= .int .i64 ((i:Int))/\S.f 15= .ptr 15 0 0/\S.h 15=some ⟨18,[KKj (entries[i])],true⟩/\S.f 16= .cx 16 0 ((((nM (Prog.mk ax ae ay) dW dL i m1 j).1).map cS.e)).length/\S.h 16=some ⟨6,(((nM (Prog.mk ax ae ay) dW dL i m1 j).1).map cS.e),false⟩/\S.f 35= .sl false ((entries).map Entry.e)/\S.f 36= .int .i64 ((entries.length:Int))/\S.f 37= .int .i64 ((i:Int))/\S.f 42= .sl false (dW.map cS.e)/\S.f 43=((dW).length:Int)/\S.f 44=(j:Int)/\S.n=1100)/\True) (dW.length) (by omega) ?_ ?_ ?_
  ·rintro j S ⟨mj,uD,jq⟩ ⟨lB,r9⟩;have hs:=LX (Prog.mk ax ae ay) dL i m1 jq;have hlen:=Kw (Prog.mk ax ae ay) dW dL i m1 j;have ln:=Pl (Ok:=Ok i) (p:=(Prog.mk ax ae ay)) (hA i) dW dL i hM j;obtain⟨⟨now,m2⟩,hh⟩: ∃x,nM (Prog.mk ax ae ay) dW dL i m1 j=x:=⟨_,rfl⟩;rw[hh]at hs hlen ln;simp only at hlen ln;obtain⟨d,HG,hd⟩:=hOk i m2 ln;obtain⟨⟨ft,fr,fk,fth,fw,fb⟩,hf⟩: ∃x,dW[j]=x:=⟨_,rfl⟩;rw[hf]at hs;have D4:(j:Int)<dW.length:=by omega
   by_cases c1:pP ⟨ft,fr,fk,fth,fw,fb⟩=true
   case neg=>
    have Yu:pP ⟨ft,fr,fk,fth,fw,fb⟩=false:=by simpa using c1
    have e1:Pk (Prog.mk ax ae ay) dL i (now,m2) ⟨ft,fr,fk,fth,fw,fb⟩=(now,m2):=if_neg (by unfold agv;rw[Yu];simp);rw[e1]at hs;simp[lB,uD,jq,hh,hs,hf,Yu,D4]
   by_cases c2:fr=dL
   case neg=>
    have e1:Pk (Prog.mk ax ae ay) dL i (now,m2) ⟨ft,fr,fk,fth,fw,fb⟩=(now,m2):=if_neg (by unfold agv;rw[c1];simp[c2]);rw[e1]at hs;simp[lB,uD,jq,hh,hs,hf,c1,c2,D4]
   subst c2;by_cases c3:ft=(i:Int)
   case neg=>
    have e1:Pk (Prog.mk ax ae ay) fr i (now,m2) ⟨ft,fr,fk,fth,fw,fb⟩=(now,m2):=if_neg (by unfold agv;rw[c1];simp[c3]);rw[e1]at hs;simp[lB,uD,jq,hh,hs,hf,c1,c3,D4]
   subst c3;have hAp:=jW ax ae ay m2.layout.aD m2.layout.key m2.memory.cells m2.memory.lines m2.threads i fr fk fth fw fb d HG hd;rw[show aO.mk ⟨m2.layout.aD,m2.layout.key⟩ ⟨m2.memory.cells,m2.memory.lines⟩ m2.threads=m2 from rfl]at hAp;have e1:Pk (Prog.mk ax ae ay) fr i (now,m2) ⟨i,fr,fk,fth,fw,fb⟩=(now++ [⟨i,fr,fk,fth,fw,fb⟩],oK (Prog.mk ax ae ay) m2 ⟨i,fr,fk,fth,fw,fb⟩):=if_pos (by unfold agv;rw[c1];simp);rw[e1]at hs;have tkn:List.take now.length (now.map cS.e)=now.map cS.e:=aZ (by simp);have bd:(now.length+1)*48<=140737488355328/\now.length<=4611686018427387903:=by omega
   simp[lB,uD,jq, -jW,hh,hs,hf,c1,D4,hAp,tkn,bd,cS.bS]
  ·rintro S ⟨lB,r9⟩;have ln:=Pl (Ok:=Ok i) (p:=(Prog.mk ax ae ay)) (hA i) dW dL i hM dW.length;obtain⟨⟨now,m2⟩,hh⟩: ∃x,nM (Prog.mk ax ae ay) dW dL i m1 dW.length=x:=⟨_,rfl⟩;have YT:=Kw (Prog.mk ax ae ay) dW dL i m1 dW.length;rw[hh]at ln us YT;simp only at ln us YT;obtain⟨Pm,anr,Tu⟩:=hC i bL m2 ln;obtain⟨⟨m3,q,b⟩,hc⟩: ∃x,C m2 entries[i]=x:=⟨_,rfl⟩;have v9:=XR (Prog.mk ax ae ay) C dW dL i m1 bL hh hc;rw[hc]at Pm anr Tu us;simp only at Pm anr Tu us;rw[<-hR]at v9;have tkn:List.take now.length (now.map cS.e)=now.map cS.e:=aZ (by simp);have HW:=bH q.dd q.stop q.dr q.count q.pc q.call q.args q.data (entries[i]).request.dd (entries[i]).request.stop (entries[i]).request.dr (entries[i]).request.count (entries[i]).request.pc (entries[i]).request.call (entries[i]).request.args (entries[i]).request.data (by have:=Tu.a;omega) (by have:=Tu.d;omega);have agw:=mF q.dd q.stop q.dr q.count q.pc q.call q.args q.data now (by omega) Tu.a Tu.d Tu.av Tu.dv;rw[show Request.mk q.dd q.stop q.dr q.count q.pc q.call q.args q.data=q from rfl]at agw HW;rw[show Request.mk (entries[i]).request.dd (entries[i]).request.stop (entries[i]).request.dr (entries[i]).request.count (entries[i]).request.pc (entries[i]).request.call (entries[i]).request.args (entries[i]).request.data=(entries[i]).request from rfl]at HW;cases b with
   |false=>
    rw[if_pos (.inl rfl)]at v9;simp[lB, -bH, -mF,hh,Pm,v9]
   |true=>
    by_cases k1:(entries[i]).kind=1
    case neg=>
     rw[if_neg (by simp[k1])]at v9;simp[gS,bL,lB, -bH, -mF,hh,Pm,v9,k1,us,anr]
    rw[k1]at Pm;by_cases s1:q=(entries[i]).request
    case neg=>
     rw[if_pos (.inr ⟨k1,.inl s1⟩)]at v9;rw[decide_eq_false s1]at HW;simp[lB, -bH, -mF,hh,Pm,v9,k1,HW]
    rw[decide_eq_true s1]at HW;cases a1:ago q now with
    |false=>
     rw[if_pos (.inr ⟨k1,.inr a1⟩)]at v9;rw[a1]at agw;simp[lB, -bH, -mF,hh,Pm,v9,k1,HW,agw,tkn]
    |true=>
     rw[if_neg (by rw[a1];simp[s1])]at v9;rw[a1]at agw;simp[gS,bL,lB, -bH, -mF,hh,Pm,v9,k1,HW,agw,tkn,us,anr]
  ·simp[df,UF,sV]
 ·rintro S ⟨df,fg⟩;have FO:Ae (Prog.mk ax ae ay) C dW dL (entries.drop entries.length) entries.length (Tb (Prog.mk ax ae ay) C dW dL entries m0 entries.length)=(Tb (Prog.mk ax ae ay) C dW dL entries m0 entries.length,(entries.length:Int)):=by rw[List.drop_length];rfl
  have hRR:=fg.1;rw[FO]at hRR;simp[df,hRR]
 ·simp[a41,h0];exact⟨rfl,rfl,rfl,rfl,rfl⟩
@[simp]def agx(ax:List Instr)(ae:List Int)(ay:List (List Int))(aa:List Int)(aq:Int)(ak:List Cell)(ah:List cw)(au:List Thread)(kZ cR vM bQ dA dX dJ fp dY:Int)(dF dG:List Canon)(dy dz cW cX:Int)(dU:List Canon)(dZ:Int)(eJ:Bool)(d:Int)(HG:cT (Prog.mk ax ae ay) d (aO.mk (Layout.mk aa aq) (aF.mk ak ah) au))(hd:d<=1099511627776)(hE:S9 (Entry.mk kZ cR vM (Request.mk bQ dA dX dJ fp dY dF dG) (lO.mk (Canon.mk dy dz cW cX) dU dZ eJ)))(hv:vI (Entry.mk kZ cR vM (Request.mk bQ dA dX dJ fp dY dF dG) (lO.mk (Canon.mk dy dz cW cX) dU dZ eJ))=true)(hk:kZ=1):bU X 21 [KKQ ax ae ay,KKY aa aq ak ah au,KKm kZ cR vM bQ dA dX dJ fp dY dF dG dy dz cW cX dU dZ eJ]=some (.dP [KKK ((gN (Prog.mk ax ae ay) (aO.mk (Layout.mk aa aq) (aF.mk ak ah) au) cR vM).1),KKW ((gN (Prog.mk ax ae ay) (aO.mk (Layout.mk aa aq) (aF.mk ak ah) au) cR vM).2.1),.bool true]):=by
 refine aaA ?_;have h1:dF.length<=1000000000:=abK hE.a (by omega);have h2:dG.length<=1000000000:=abK hE.d (by omega);have h3:dU.length<=1000000000:=abK hE.r (by omega);have hV:=zw kZ cR vM bQ dA dX dJ fp dY dF dG dy dz cW cX dU dZ eJ h1 h2 h3;rw[hv]at hV;have hm:jU (Prog.mk ax ae ay) (aO.mk (Layout.mk aa aq) (aF.mk ak ah) au)=true:=(HG.mono hd).ok;have hp:=HG.prog.lens;have sE:=HG.lens;have ht:0<=cR/\cR<4/\1<=vM/\vM<=64:=by
  unfold vI at hv;simp only[aaF,decide_eq_true_eq]at hv;obtain⟨t0,t4,hv⟩:=hv;unfold S8 at hv;rw[if_pos hk]at hv;simp only[aaF,decide_eq_true_eq]at hv;exact⟨t0,t4,hv.1,hv.2.1⟩
 have hT:=UC ax ae ay aa aq ak ah au cR vM HG.R hm ⟨ht.1,ht.2.1⟩ ht.2.2;obtain⟨⟨m3,q,z⟩,hq⟩: ∃x,gN (Prog.mk ax ae ay) (aO.mk (Layout.mk aa aq) (aF.mk ak ah) au) cR vM=x:=⟨_,rfl⟩;rw[hq]at hT⊢;subst hk;simp[-zw, -UD, -UC,hV,hm,hp,sE,hT]
def Sv.l(h:Sv q):awa q:=⟨by have:=h.args;omega,by have:=h.data;omega,fun i g=>h.av _ (aaL g),fun i g=>h.dv _ (aaL g)⟩
def XS(HG:cT p d m)(hd:d+64<=1099511627776)(ht:0<=t/\t<4)(hn:1<=n/\n<=64):cT p (d+64) (gN p m t n).1/\awa (gN p m t n).2.1:=by
 obtain⟨k,rfl⟩:=aaG ht.1;by_cases hs:(bV m k).state=1
 ·obtain⟨m',q,e,h1,_,_,h2,_⟩:=B8 HG hd (t:=k) (by omega) hn hs;rw[e];exact⟨h1,h2.l⟩
 ·have hv:jU p m=true:=(HG.mono (by omega)).ok;have e1:dQ p m k n=(m,3):=by unfold dQ;exact if_neg hs
  have e:gN p m k n=((mr p m k 3).1,(mr p m k 3).2,0):=by
   unfold gN;rw[if_pos ⟨hv,ht,hn.1,hn.2⟩,aaH,e1]
  have e2:mr p m k 3=(m,⟨k,3,if(3:Int)=2 then(bV m k).dr else 0,(bV m k).count,(bV m k).pc,0,[],[]⟩):=by unfold mr;rw[if_neg (by decide)]
  rw[e,e2];exact⟨HG.mono (by omega),by simp,by simp,fun i g=>by simp at g,fun i g=>by simp at g⟩
def a44(hd:d+64<=1099511627776){e:Entry}(hE:S9 e)(hv:vI e=true)(hk:e.kind=1):a43 p (fun m e=>((gN p m e.dd e.n).1,(gN p m e.dd e.n).2.1,true)) (cT p d) (cT p (d+64)) 21 e:=by
 intro m HG;have ht:(0<=e.dd/\e.dd<4)/\1<=e.n/\e.n<=64:=by
  unfold vI at hv;simp only[aaF,decide_eq_true_eq]at hv;obtain⟨t0,t4,hv⟩:=hv;unfold S8 at hv;rw[if_pos hk]at hv;simp only[aaF,decide_eq_true_eq]at hv;exact⟨⟨t0,t4⟩,hv.1,hv.2.1⟩
 have h1:=XS HG hd ht.1 ht.2;refine⟨?_,h1.1,h1.2⟩;obtain⟨k,t,n,⟨q1,q2,q3,q4,q5,q6,q7,q8⟩,⟨⟨r1,r2,r3,r4⟩,r5,r6,r7⟩⟩:=e;exact agx p.code p.an p.data m.layout.aD m.layout.key m.memory.cells m.memory.lines m.threads k t n q1 q2 q3 q4 q5 q6 q7 q8 r1 r2 r3 r4 r5 r6 r7 d HG (by omega) hE hv hk
def I8:Prog:=⟨[⟨1,0,0,0,5⟩,⟨18,0,0,0,2⟩,⟨23,0,0,0,0⟩],[1],[[]]⟩
def a3M:aO:=gF I8 ⟨[3],0⟩
def UG:List Entry:=[⟨1,0,1,⟨0,0,0,1,2,0,[],[]⟩,⟨⟨0,0,0,0⟩,[],0,false⟩⟩,⟨1,0,1,⟨0,1,0,1,3,0,[⟨0,5,0,0⟩],[]⟩,⟨⟨0,0,0,0⟩,[],0,false⟩⟩]
def a3F:List cS:=[⟨1,0,1,0,0,1⟩]
def a3C(m:aO)(e:Entry):aO×Request×Bool:=((gN I8 m e.dd e.n).1,(gN I8 m e.dd e.n).2.1,true)
def agy:rn I8:=N7 (by decide+kernel)
def agz:nW [3] [1]:=mO.1 (by decide+kernel)
def awb:cT I8 0 a3M:=Ki agy (fun d hd x hx=>by simp[I8]at hd;subst hd;cases hx) agz (by simp)
def ans:(Ae I8 a3C a3F 0 UG 0 a3M).2=1:=by decide+kernel
def ant:(Ae I8 a3C [] 0 UG 0 a3M).2=2:=by decide+kernel
def ag0:UG.all vI=true:=by decide+kernel
def UH: ∀i (h:i<UG.length),S9 UG[i]:=fun i h=>by
 have h2:i<2:=h;have:i=0\/i=1:=by omega
 rcases this with rfl|rfl<;>exact⟨by simp[UG],by simp[UG],by simp[UG]⟩
def anu: ∀i (h:i<UG.length),(UG[i]).kind=1:=fun i h=>by
 have h2:i<2:=h;have:i=0\/i=1:=by omega
 rcases this with rfl|rfl<;>rfl
def ag1(fs:List cS)(hf:fs.length<=1000000): ∃bs key cs ls ts,bU X 54 [KKi I8,KKc [3] 0,.sl false (UG.map Entry.e),.sl false (fs.map cS.e),.int .i64 0]=
  some (.dP [KKY bs key cs ls ts,.int .i64 (Ae I8 a3C fs 0 UG 0 a3M).2]):=by
 have h:=Eh I8.code I8.an I8.data [3] 0 UG fs 0 a3C (fun i m=>cT I8 (1000001+64*i) m/\i<=2) a3M
  (ano I8.code I8.an I8.data [3] 0 agy agz) ag0 UH (by decide) hf
  (fun i m hm=>⟨_,hm.1,by have:=hm.2;omega⟩) (fun i m f hm=>⟨Hy hm.1 (adQ _) (by have:=hm.2;omega) f,hm.2⟩)
  (fun i hi m hm=>by
   have LZ:i<2:=hi;obtain⟨c1,c2,c3⟩:=a44 (p:=I8) (d:=1000001+64*i) (by omega) (UH i hi) (List.all_eq_true.1 ag0 _ (aaL hi)) (anu i hi) m hm.1;refine⟨c1,⟨?_,by omega⟩,c3⟩;exact c2.mono (by omega))
  ⟨awb.mono (by omega),by omega⟩
 exact⟨_,_,_,_,_,h⟩
@[simp]def XT:bU X 39 []=some (.bool true):=by
 obtain⟨b1,k1,c1,l1,t1,R1⟩:=ag1 a3F (by decide);obtain⟨b2,k2,c2,l2,t2,R2⟩:=ag1 [] (by decide);rw[ans]at R1;rw[ant]at R2;simp only[I8,UG,a3F,aaV,abM,Instr.bS,AQ,Entry.bS,cS.bS,Canon.bS]at R1 R2;have hF:pP ⟨1,0,1,0,0,1⟩=true:=by decide
 refine aaA ?_;simp[-Eh,R1,R2,hF]
end Go.Proofs.YtdngefmliibcgaaGreat
