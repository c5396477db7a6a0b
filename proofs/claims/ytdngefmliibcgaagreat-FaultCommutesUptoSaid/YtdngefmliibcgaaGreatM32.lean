/- Part of a proof: H7. -/
import Derived.Test.YtdngefmliibcgaaGreatM31
set_option linter.all false
set_option maxRecDepth 20000
set_option maxHeartbeats 20000000
namespace Go.Proofs.YtdngefmliibcgaaGreat
open Go Go.Abs Go.Abs.kX Qf
variable  {α:Type}{i k b:Nat}{d d' t n:Int}{p:Prog}{m m1 m2:aO}{dl:List Int}{fs now:List dF}{es:List Entry}{q:Request}
def ng{α:Type}(z:α)(l:List α)(i:Nat)(F:α->α):List α:=l.set i (F (l.getD i z))
def Ce{l:List α}(h:l.length<=i)(x:α):l.set i x=l:=List.set_eq_of_length_le h
def OI(z:α)(l:List α)(i:Nat):l.set i (l.getD i z)=l:=by
 by_cases h:i<l.length
 ·have:l.getD i z=l[i]:=by simp[List.getD,h]
  rw[this,abO]
 ·exact Ce (by omega) _
def Hf(z:α)(l:List α)(i:Nat):ng z l i (fun x=>x)=l:=OI z l i
def OJ(z:α)(l:List α)(i j:Nat)(x:α):(l.set i x).getD j z=if i=j/\i<l.length then x else l.getD j z:=by
 simp only[List.getD,abK];by_cases h:i=j
 ·subst h;by_cases h2:i<l.length
  ·simp[h2]
  ·simp[h2]
 ·simp[h]
def uy(z:α)(l:List α)(i j:Nat)(F G:α->α)(h:i=j->i<l.length->F (G (l.getD i z))=G (F (l.getD i z))):ng z (ng z l i F) j G=ng z (ng z l j G) i F:=by
 unfold ng;rw[OJ,OJ];by_cases e:i=j
 ·subst e;by_cases hl:i<l.length
  ·rw[if_pos ⟨rfl,hl⟩,if_pos ⟨rfl,hl⟩,acI,acI,h rfl hl]
  ·rw[Ce (by simp;omega),Ce (by omega),Ce (by simp;omega),Ce (by omega)]
 ·rw[if_neg (fun g=>e g.1),if_neg (fun g=>e g.1.symm),List.set_comm _ _ e]
def zc:Cell:=⟨0,0⟩
def Pb(f:dF)(x:Thread):Thread:=
 if f.kind=1 then⟨x.state,ng zc x.bz (OG f) (pN · f.bit),x.pc,x.count,x.cn,x.saved,x.dn,x.code⟩
 else if f.kind=2 then⟨x.state,ng zc x.bz (OG f) (Lr · f.bit),x.pc,x.count,x.cn,x.saved,x.dn,x.code⟩
 else if f.kind=3 then⟨x.state,x.bz,TY x.pc f.bit,x.count,x.cn,x.saved,x.dn,x.code⟩ else x
def W6(f:dF)(c:Cell):Cell:=if f.kind=4 then pN c f.bit else c
def T8(f:dF)(x:cy):cy:=if f.kind=5/\ ¬x.tag= -1 then⟨x.tag,x.iW,ng zc x.cells (zY f % 4) (pN · f.bit)⟩ else x
def Lt(p:Prog)(m:aO)(f:dF):aO:=⟨m.layout,⟨ng zc m.memory.cells (Sp p m f) (W6 f),ng eD m.memory.lines (zY f/4) (T8 f)⟩,ng cw m.threads (xr f) (Pb f)⟩
def zO(p:Prog)(m:aO)(f:dF):l9 p m f=Lt p m f:=by
 obtain⟨lay,⟨cs,ls⟩,ts⟩:=m;have n4: ∀h: ¬f.kind=4,ng zc cs (Sp p ⟨lay,⟨cs,ls⟩,ts⟩ f) (W6 f)=cs:=fun h=>by
  have:W6 f=fun x=>x:=funext fun x=>if_neg h;rw[this,Hf]
 have n5: ∀h: ¬f.kind=5,ng eD ls (zY f/4) (T8 f)=ls:=fun h=>by
  have:T8 f=fun x=>x:=funext fun x=>if_neg fun g=>h g.1;rw[this,Hf]
 have nt: ∀(h1: ¬f.kind=1) (h2: ¬f.kind=2) (h3: ¬f.kind=3),ng cw ts (xr f) (Pb f)=ts:=fun h1 h2 h3=>by
  have:Pb f=fun x=>x:=funext fun x=>by unfold Pb;rw[if_neg h1,if_neg h2,if_neg h3]
  rw[this,Hf]
 unfold l9 Lt;by_cases h1:f.kind=1
 ·rw[if_pos h1,n4 (by omega),n5 (by omega)];unfold iZ ng Pb;rw[if_pos h1];rfl
 rw[if_neg h1];by_cases h2:f.kind=2
 ·rw[if_pos h2,n4 (by omega),n5 (by omega)];unfold iZ ng Pb;rw[if_neg h1,if_pos h2];rfl
 rw[if_neg h2];by_cases h3:f.kind=3
 ·rw[if_pos h3,n4 (by omega),n5 (by omega)];unfold iZ ng Pb;rw[if_neg h1,if_neg h2,if_pos h3];rfl
 rw[if_neg h3,nt h1 h2 h3];by_cases h4:f.kind=4
 ·rw[if_pos h4,n5 (by omega)];unfold Sq ng W6;rw[if_pos h4];rfl
 rw[if_neg h4,n4 h4];by_cases h5:f.kind=5
 ·rw[if_pos h5];unfold Ls;by_cases ht:(dZ ⟨cs,ls⟩ (zY f/4)).tag= -1
  ·have e:T8 f (ls.getD (zY f/4) eD)=ls.getD (zY f/4) eD:=if_neg fun g=>g.2 ht;rw[if_pos ht];unfold ng;rw[e,OI]
  ·have e:T8 f (ls.getD (zY f/4) eD)=⟨(dZ ⟨cs,ls⟩ (zY f/4)).tag,(dZ ⟨cs,ls⟩ (zY f/4)).iW,ng zc (dZ ⟨cs,ls⟩ (zY f/4)).cells (zY f % 4) (pN · f.bit)⟩:=if_pos ⟨h5,ht⟩;rw[if_neg ht];unfold ng at e⊢;rw[e];rfl
 ·rw[if_neg h5,n5 h5]
def afd{x:Thread}(h:eu d x)(f g:dF)(hf: ¬f.kind=2)(hg: ¬g.kind=2):Pb g (Pb f x)=Pb f (Pb g x):=by
 obtain⟨a,b,c,d',e,g',i,j⟩:=x;have hc:=h.cells;have hp:=h.pc;simp only at hc hp;unfold Pb;by_cases f1:f.kind=1
 ·rw[if_pos f1,if_pos f1];by_cases g1:g.kind=1
  ·rw[if_pos g1,if_pos g1];simp only;rw[uy _ _ _ _ _ _ fun _ _=>Be (hc.getD _) _ _]
  rw[if_neg g1,if_neg g1,if_neg hg,if_neg hg];by_cases g3:g.kind=3
  ·rw[if_pos g3,if_pos g3]
  ·rw[if_neg g3,if_neg g3]
 rw[if_neg f1,if_neg f1,if_neg hf,if_neg hf];by_cases f3:f.kind=3
 ·rw[if_pos f3,if_pos f3];by_cases g1:g.kind=1
  ·rw[if_pos g1,if_pos g1]
  rw[if_neg g1,if_neg g1,if_neg hg,if_neg hg];by_cases g3:g.kind=3
  ·rw[if_pos g3,if_pos g3];simp only;rw[afc hp]
  ·rw[if_neg g3,if_neg g3]
 ·rw[if_neg f3,if_neg f3]
def afe{c:Cell}(h:jd c)(f g:dF):W6 g (W6 f c)=W6 f (W6 g c):=by
 unfold W6;by_cases f4:f.kind=4
 ·by_cases g4:g.kind=4
  ·rw[if_pos f4,if_pos f4,if_pos g4,if_pos g4,Be h]
  ·rw[if_pos f4,if_pos f4,if_neg g4,if_neg g4]
 ·rw[if_neg f4,if_neg f4]
def aff{x:cy}(h:ep x.cells)(f g:dF):T8 g (T8 f x)=T8 f (T8 g x):=by
 unfold T8;by_cases c:f.kind=5/\ ¬x.tag= -1
 ·rw[if_pos c];by_cases c2:g.kind=5/\ ¬x.tag= -1
  ·rw[if_pos c2];simp only;rw[if_pos c2,if_pos c,uy _ _ _ _ _ _ fun _ _=>Be (h.getD _) _ _]
  ·rw[if_neg c2];rw[if_neg c2,if_pos c]
 ·rw[if_neg c];by_cases c2:g.kind=5/\ ¬x.tag= -1
  ·rw[if_pos c2];exact(if_neg c).symm
  ·rw[if_neg c2,if_neg c]
def Ua(p:Prog)(m:aO)(f g:dF):Lt p (Lt p m f) g=⟨m.layout,⟨ng zc (ng zc m.memory.cells (Sp p m f) (W6 f)) (Sp p m g) (W6 g),ng eD (ng eD m.memory.lines (zY f/4) (T8 f)) (zY g/4) (T8 g)⟩,ng cw (ng cw m.threads (xr f) (Pb f)) (xr g) (Pb g)⟩:=rfl
def Ss(H:db p d m)(f g:dF)(hf: ¬f.kind=2)(hg: ¬g.kind=2):l9 p (l9 p m f) g=l9 p (l9 p m g) f:=by
 rw[zO,zO,zO,zO,Ua,Ua];have hl: ∀i,i<m.memory.lines.length->ep (m.memory.lines.getD i eD).cells:=fun i _=>H.mem.line i;rw[uy zc _ _ _ (W6 f) (W6 g) fun _ _=>(afe (H.mem.cells.getD _) g f),
  uy eD _ _ _ (T8 f) (T8 g) fun _ h=>aff (hl _ h) g f,
  uy cw _ _ _ (Pb f) (Pb g) fun _ h=>by
   have:=H.pg _ h;rw[show m.threads.getD (xr f) cw=m.threads[xr f] by simp[List.getD,h]];exact afd this g f hg hf]
def wE(H:db p d m)(hd:d<=d')(hb:1000000<d')(f:dF):db p d' (mG p m f):=by
 unfold mG;split
 ·exact W5 H hd hb f
 ·exact H.mono hd
def zP(H:db p d m)(hd:d<=1099511627776)(f:dF):mG p m f=if qA f=true then l9 p m f else m:=by
 have hv:jU p m=true:=(H.mono hd).ok;unfold mG;simp only[hv,and_true]
def OK(H:db p d m)(hd:d<=1000001)(f g:dF)(hf: ¬f.kind=2)(hg: ¬g.kind=2):mG p (mG p m f) g=mG p (mG p m g) f:=by
 rw[zP (wE H hd (by omega) f) (by omega),zP (wE H hd (by omega) g) (by omega),zP H (by omega),zP H (by omega)];by_cases h1:qA f=true<;>by_cases h2:qA g=true<;>simp only[h1,h2,if_true,if_false,aaM];exact Ss H f g hf hg
def OE.io0{v:V}{h:bh}(H:OE dl v h k): ∃(kt:Int) (p:Prog) (d:Int) (m:aO),
  x8 X [] v h=some (2,(KKa dl kt:V),pmV p m)/\vj v= .dM []/\eh dl kt/\db p d m/\d<=2000:=by
 obtain⟨kt,p,d,T,m,rfl,h0,hT,T0,vr,HG,hd⟩:=H;refine⟨kt,p,d,m,?_,rfl,vr,HG,hd⟩;have rE:m.threads.length=4:=HG.len;have tM: ∀(f:Thread->V),List.take 4 (m.threads.map f)=m.threads.map f:=fun f=>aZ (by simp;omega);have RQ: ∀(f:Thread->Option V),List.take 4 (m.threads.map f)=m.threads.map f:=fun f=>aZ (by simp;omega);unfold pmV;simp(maxSteps:=10000000)[h0,hT,rE,T0,tM]
def Su(hd:eh dl t): ∃(kt:Int) (p:Prog) (d:Int) (m:aO),
  oF X [] 40 2 ((KKa dl t:V)) []=some (2,(KKa dl kt:V),pmV p m,.dM [])/\eh dl kt/\db p d m/\d<=2000:=by
 obtain⟨v,h,k,e,HE⟩:=W1 dl t hd;obtain⟨kt,p,d,m,Bg,hv,h1,h2,h3⟩:=HE.io0;refine⟨kt,p,d,m,?_,h1,h2,h3⟩;unfold oF;rw[show 1+(X.fl 40).length=1 from rfl,e];simp only[Bg,hv]
@[simp]def El(l:List Int)(hl:l.length<=2000000)(haw:bW X 39 []=some (.bool true)): ∃h' k',cL X 11 [l] pP 0=some (.bool true,h',k'):=by
 suffices H: ∃v h' k',cL X 11 [.sl false (l.map (V.int .i64))] pP 0=some (v,h',k')/\v= .bool true by
  obtain⟨v,h',k',e,rfl⟩:=H;exact⟨h',k',e⟩
 have O7:eh l 0:=⟨by omega,by omega⟩;obtain⟨kt,⟨pc,ps,pd⟩,d,m0,hM,vr,HG,XD⟩:=Su (dl:=l) O7;have F1:=mW l kt 1 1 vr (by omega) (by omega);have F2:=mW l (JH l kt) 1 1 (adk vr) (by omega) (by omega);obtain⟨⟨ft,fr,fk,fh,fw,fb⟩,hf⟩: ∃f,BZ l 1 1 kt=f:=⟨_,rfl⟩;obtain⟨⟨gt,gr,gk,gh,gw,gb⟩,hg⟩: ∃f,BZ l 1 1 (JH l kt)=f:=⟨_,rfl⟩;rw[hf]at F1;rw[hg]at F2;simp only at F1 F2;have rE:m0.threads.length=4:=HG.len;have hp:=HG.prog.lens;have tw:=HG.lens;have Gf:=wE HG (d':=1000001) (by omega) (by omega) ⟨ft,fr,fk,fh,fw,fb⟩;have Gg:=wE HG (d':=1000001) (by omega) (by omega) ⟨gt,gr,gk,gh,gw,gb⟩;have Gfg:=wE Gf (d':=1000001) (by omega) (by omega) ⟨gt,gr,gk,gh,gw,gb⟩;have hc:=OK HG (by omega) ⟨ft,fr,fk,fh,fw,fb⟩ ⟨gt,gr,gk,gh,gw,gb⟩;have A1:=kK pc ps pd m0.layout.aD m0.layout.key m0.memory.cells m0.memory.lines m0.threads ft fr fk fh fw fb d HG (by omega);have A2:=kK pc ps pd m0.layout.aD m0.layout.key m0.memory.cells m0.memory.lines m0.threads gt gr gk gh gw gb d HG (by omega);have e0:aO.mk ⟨m0.layout.aD,m0.layout.key⟩ ⟨m0.memory.cells,m0.memory.lines⟩ m0.threads=m0:=rfl;rw[e0]at A1 A2;obtain⟨mf,hmf⟩: ∃x,mG ⟨pc,ps,pd⟩ m0 ⟨ft,fr,fk,fh,fw,fb⟩=x:=⟨_,rfl⟩;obtain⟨mg,hmg⟩: ∃x,mG ⟨pc,ps,pd⟩ m0 ⟨gt,gr,gk,gh,gw,gb⟩=x:=⟨_,rfl⟩;rw[hmf]at A1 Gf Gfg hc;rw[hmg]at A2 Gg hc;have A3:=kK pc ps pd mf.layout.aD mf.layout.key mf.memory.cells mf.memory.lines mf.threads gt gr gk gh gw gb 1000001 Gf (by omega);have A4:=kK pc ps pd mg.layout.aD mg.layout.key mg.memory.cells mg.memory.lines mg.threads ft fr fk fh fw fb 1000001 Gg (by omega);have ef:aO.mk ⟨mf.layout.aD,mf.layout.key⟩ ⟨mf.memory.cells,mf.memory.lines⟩ mf.threads=mf:=rfl;have eg:aO.mk ⟨mg.layout.aD,mg.layout.key⟩ ⟨mg.memory.cells,mg.memory.lines⟩ mg.threads=mg:=rfl;rw[ef]at A3;rw[eg]at A4;simp only[pmV]at hM;have l4:mf.threads.length=4:=Gf.len;have l5:mg.threads.length=4:=Gg.len;refine aaB ?_;by_cases k1:fk=2
 ·simp[-mW, -kK,ad1,hM,F1,F2,k1,haw]
 by_cases k2:gk=2
 ·simp[-mW, -kK,ad1,hM,F1,F2,k1,k2,haw]
 have Bq:=hc k1 k2;rw[<-Bq]at A4;obtain⟨x,hx⟩: ∃x,mG ⟨pc,ps,pd⟩ mf ⟨gt,gr,gk,gh,gw,gb⟩=x:=⟨_,rfl⟩;rw[hx]at A3 A4 Gfg;have l6:x.threads.length=4:=Gfg.len;have Dk:=Gfg.lens;have hS:=BT x.layout.aD x.layout.key x.memory.cells x.memory.lines x.threads x.layout.aD x.layout.key x.memory.cells x.memory.lines x.threads Dk;rw[decide_eq_true (by rfl)]at hS;simp[-mW, -kK, -BT,ad1,hM,F1,F2,k1,k2,A1,A2,A3,A4,hS,haw]
@[simp]def afr:bW X 239 []=some (.sl false (cm.map cy.e)):=by
 refine aaA ?_;simp[];refine cZ (fun i S=>(S.f 1= .cu 1 0 ((zC i)).length/\S.h 1=some ⟨3,(zC i),false⟩/\S.f 5= .int .i64 (4)/\S.f 6=(i:Int)/\S.n=1100)/\True) (4) (by omega) ?_ ?_ ?_
 ·rintro i S ⟨pq,ie,bL⟩ ⟨df,fp⟩;have:i=0\/i=1\/i=2\/i=3:=by omega
  rcases this with rfl|rfl|rfl|rfl<;>simp[df,bL,zC]<;>decide
 ·rintro S ⟨df,fp⟩;simp[df]<;>(
   rfl)
 ·simp[]<;>(
   exact⟨rfl,rfl⟩)
def Cf(l:List Int):List Cell:=l.map fun v=>⟨0,v⟩
def Hj(l:List Int):(Cf l).length=l.length:=by simp[Cf]
@[simp]def afs(l:List Int)(hm:l.length<=100000):bW X 240 [.sl false (l.map (V.int .u16))]=some (.sl false ((Cf l).map Cell.e)):=by
 refine aaA ?_;simp[];refine cZ (fun i S=>(S.f 3= .cu 3 0 (((Cf (l.take i)).map Cell.e)).length/\S.h 3=some ⟨2,((Cf (l.take i)).map Cell.e),false⟩/\S.f 6= .sl false (l.map (V.int .u16))/\S.f 7=((l).length:Int)/\S.f 8=(i:Int)/\S.n=1100)/\True) (l.length) (by omega) ?_ ?_ ?_
 ·rintro i S ⟨pq,ie,bL⟩ ⟨df,fp⟩;have hl:=Hj (l.take i);have up:Cf (l.take (i+1))=Cf (l.take i)++ [⟨0,l[i]⟩]:=by unfold Cf;rw[fD bL,abH];rfl
  obtain⟨N,hN⟩: ∃N,Cf (l.take i)=N:=⟨_,rfl⟩;rw[hN]at hl up;have lO:min i l.length=i:=by omega
  simp only[abN,lO]at hl;simp[df,ie,bL,hN,hl,up,Cell.bS];all_goals ((repeat' (first|apply And.intro|intro _))<;>first|omega|rfl|(exact aZ (by simp;omega)))
 ·rintro S ⟨df,fp⟩;simp[df]
 ·simp[Cf]
def Ue(cells:List Cell)(b:Nat)(d:List Int): ∀k,k<=d.length->b+d.length<=cells.length-> ∀i,(tF cells b d k)[i]?=if b<=i/\i<b+k then(cells[i]?).map (fun c=>⟨c.tag,nth d (i-b)⟩) else cells[i]?
 |0,_,_,i=>by rw[V8,if_neg (by omega)]
 |k+1,hk,hl,i=>by
  have ih:=Ue cells b d k (by omega) hl;have hlen:=Gb cells b d k;rw[tF,abK];by_cases e:b+k=i
  ·subst e;rw[if_pos rfl,if_pos (by omega),if_pos (by omega)];have h0:(tF cells b d k)[b+k]?=cells[b+k]?:=by rw[ih,if_neg (by omega)]
   have h1:b+k<cells.length:=by omega
   simp only[aaQ,h0,aaJ h1,abR,abZ,Nat.add_sub_cancel_left]
  ·rw[if_neg e,ih];by_cases g:b<=i/\i<b+k
   ·rw[if_pos g,if_pos (by omega)]
   ·rw[if_neg g,if_neg (by omega)]
def Xb{cells:List Cell}{d:List Int}(hl:b+d.length<=cells.length)(h0: ∀c∈cells,c.tag=0):tF cells b d d.length=cells.take b++Cf d++cells.drop (b+d.length):=by
 apply abA;intro i;have hb:(cells.take b).length=b:=by simp;omega
 have hn:=Hj d;rw[Ue _ _ _ _ (aaI _) hl];by_cases g1:i<b
 ·rw[if_neg (by omega),acr,aaV (by omega),adG g1]
 by_cases g2:i<b+d.length
 ·rw[if_pos (by omega),aaV (by simp;omega),aaO (by omega),hb];have h1:i<cells.length:=by omega
  have h2:i-b<d.length:=by omega
  unfold Cf;rw[aaJ h1,abm,aaJ h2,abZ,abZ,h0 _ (aaL h1),dC h2]
 ·rw[if_neg (by omega),aaO (by simp;omega),abT];congr 1;simp;omega
def Hk{cells:List Cell}{b:Nat}{d:List Int}(h0: ∀c∈cells,c.tag=0): ∀k,∀c∈tF cells b d k,c.tag=0
 |0,c,h=>h0 c h
 |k+1,c,h=>by
  rw[tF]at h;rcases aaX h with h|rfl
  ·exact Hk h0 k c h
  ·simp only[aaQ];cases e:(tF cells b d k)[b+k]? with
   |none=>rfl
   |some x=>exact Hk h0 k x (aaT e)
def OL(p:Prog)(aD:List Int): ∀r,∀c∈pU p aD r,c.tag=0
 |0,c,h=>by rw[CQ]at h;rw[(List.mem_replicate.1 h).2]
 |r+1,c,h=>Hk (OL p aD r) _ c h
@[simp]def auy(ax:List Instr)(ae:List Int)(ay:List (List Int))(aw:List Int)(bK:Int)(hp:rn (Prog.mk ax ae ay))(hL:ov aw ae):bW X 167 [KKQ ax ae ay,KKc aw bK]=some (.dM [KKz ((⟨pU (Prog.mk ax ae ay) aw ay.length,cm⟩:aF)),.int .i64 0]):=by
 refine aaA ?_;have hz:=hp.an;simp only at hz;have z4:=hz.le;have hlen:ay.length=ae.length:=hp.len;have hb:aw.length=ae.length:=hL.len;have lj:=mU.2 hL;have b1:aw.length<=1000000000/\ae.length<=1000000000:=by omega
 have hle:(cm.map cy.e).length=4:=rfl;simp[lj,b1,hlen];refine cZ (fun r S=>(S.f 2= .ptr 2 0 0/\S.h 2=some ⟨3,[KKQ ax ae ay],true⟩/\S.f 3= .ptr 3 0 0/\S.h 3=some ⟨2,[KKc aw bK],true⟩/\S.f 4= .ptr 4 0 0/\S.h 4=some ⟨2,[KKp ([]:List Cell) ([]:List cy)],true⟩/\S.f 6= .ptr 6 0 0/\S.h 1000=some ⟨2,(⟨pU (Prog.mk ax ae ay) aw r,cm⟩:aF).cells.map Cell.e,false⟩/\S.h 6=some ⟨2,[.agg [.cu 1000 0 ((⟨pU (Prog.mk ax ae ay) aw r,cm⟩:aF).cells.map Cell.e).length,.sl false ((⟨pU (Prog.mk ax ae ay) aw r,cm⟩:aF).lines.map cy.e)]],true⟩/\S.f 28=ay/\S.f 29=((ay).length:Int)/\S.f 30=(r:Int)/\S.n=1101)/\True) (ay.length) (by omega) ?_ ?_ ?_
 ·rintro r S ⟨hir,PG,CR⟩ ⟨df,fp⟩;have r1:r<ae.length:=by omega
  have r2:r<aw.length:=by omega
  have hd:((ay[r]).length:Int)<=ae[r]:=hp.data r CR r1;have Hs: ¬ae[r]<((ay[r]).length:Int):=by omega
  have H8:=hL.base r r2 r1;have hzz:=hz.elem r r1;obtain⟨b,Tt⟩: ∃b:Nat,aw[r]=b:=⟨(aw[r]).toNat,by omega⟩;have Hr:=Gc (Prog.mk ax ae ay) aw r;have ln:pU (Prog.mk ax ae ay) aw (r+1)=(pU (Prog.mk ax ae ay) aw r).take b++Cf ay[r]++(pU (Prog.mk ax ae ay) aw r).drop (b+(ay[r]).length):=by
   rw[Ts _ _ CR,dC r2,Tt];exact Xb (by simp only;omega) (OL _ _ r)
  have Yl:=Hj ay[r];have hnm:(ay[r]).length<=100000:=by omega
  obtain⟨N,hN⟩: ∃N,Cf ay[r]=N:=⟨_,rfl⟩;rw[hN]at Yl ln;obtain⟨M,hM⟩: ∃M,pU (Prog.mk ax ae ay) aw r=M:=⟨_,rfl⟩;rw[hM]at Hr ln;obtain⟨n,hn⟩: ∃n,(ay[r]).length=n:=⟨_,rfl⟩;rw[hn]at Yl ln hd Hs hnm;have bcj:b<=512:=by omega
  have lO:min n (512-b)=n:=by omega
  have Lw:(0:Int)<=b/\(b:Int)<=512:=by omega
  have tkn:List.take n (N.map Cell.e)=N.map Cell.e:=aZ (by simp;omega);have e3:List.take b (M.map Cell.e)++N.map Cell.e++List.drop (b+n) (M.map Cell.e)=(M.take b++N++M.drop (b+n)).map Cell.e:=by simp[ae1,List.map_drop]
  simp[df,PG,CR,r1,r2,Hs,hM,hN,hn,hnm,Tt,Hr,Yl,lO,Lw,bcj,tkn,ln];omega
 ·rintro S ⟨df,fp⟩;simp[df]<;>(
   rw[hlen])
 ·simp[]<;>(
   simp[CQ,hlen,Cell.bS])
def xu:Thread:=⟨0,List.replicate 8 ⟨0,0⟩,0,0, -1, -1,0,0⟩
@[simp]def aft:bW X 168 []=some ((KKe xu:V)):=by
 refine aaA ?_;simp[xu,Cell.bS]
@[simp]def amj(ax:List Instr)(ae:List Int)(ay:List (List Int))(aw:List Int)(bK:Int)(hp:rn (Prog.mk ax ae ay))(hL:ov aw ae):bW X 85 [KKQ ax ae ay,KKc aw bK]=some (.dM [KKK (gF (Prog.mk ax ae ay) (Layout.mk aw bK)),.int .i64 0]):=by
 refine aaA ?_;have hz:=hp.an;simp only at hz;have z4:=hz.le;have hlen:ay.length=ae.length:=hp.len;have hb:aw.length=ae.length:=hL.len;have lj:=mU.2 hL;have sw:jq (Prog.mk ax ae ay)=0:=zH hp;have XK:ax.length<=64:=hp.rp;have b1:aw.length<=1000000000/\ae.length<=1000000000:=by omega
 have b2:ay.length<=1000000000:=by omega
 have b3:ax.length<=1000000000:=by omega
 have b4:aw.length<=4:=by omega
 have hPL:=auy ax ae ay aw bK hp hL;simp[dO,hPL,sw,b1,b2,b3,gF];all_goals ((repeat' (first|apply And.intro|intro _))<;>first|omega|rfl)
structure Sy (e:Entry):Prop where
 a:e.request.args.length<=1000
 d:e.request.data.length<=1000
 r:e.result.data.length<=1000
structure auz (q:Request):Prop where
 a:q.args.length<=1000
 d:q.data.length<=1000
 av: ∀i (h:i<q.args.length),0<=(q.args[i]).val/\(q.args[i]).val<=65535
 dv: ∀i (h:i<q.data.length),0<=(q.data[i]).val/\(q.data[i]).val<=65535
@[simp]def vH(Sz Hl x_n sk uz uA sW xw uB:Int)(rG rH:List Canon)(qD qE oP oQ:Int)(sB:List Canon)(uC:Int)(vI:Bool)(h:Sy (Entry.mk Sz Hl x_n (Request.mk sk uz uA sW xw uB rG rH) (lL.mk (Canon.mk qD qE oP oQ) sB uC vI))):bW X 111 [KKm Sz Hl x_n sk uz uA sW xw uB rG rH qD qE oP oQ sB uC vI]=some (.bool (!vF (Entry.mk Sz Hl x_n (Request.mk sk uz uA sW xw uB rG rH) (lL.mk (Canon.mk qD qE oP oQ) sB uC vI)))):=by
 refine aaA ?_;have h1:rG.length<=1000000000:=abG h.a (by omega);have h2:rH.length<=1000000000:=abG h.d (by omega);have h3:sB.length<=1000000000:=abG h.r (by omega);simp[-Ud,h1,h2,h3]
@[simp]def awp(s:List Entry)(hm:s.length<=1000000000)(hE: ∀i (h:i<s.length),Sy s[i]):bW X 183 [s,.fn 111 [] []]=some (.int .i64 (yz vF s)):=by
 refine aaA ?_;simp[];refine cZ (fun i S=>(S.f 0=s/\S.f 1= .fn 111 [] []/\S.f 7=((s).length:Int)/\S.f 8=(i:Int)/\S.n=1100)/\((s.take i).all vF=true)) (s.length) (by omega) ?_ ?_ ?_
 ·rintro i S ⟨pq,ie,bL⟩ ⟨df,fp⟩;have up:=vn (p:=vF) bL;rw[fp]at up;have hf:=vH (s[i]).kind (s[i]).dd (s[i]).n (s[i]).request.dd (s[i]).request.stop (s[i]).request.dn (s[i]).request.count (s[i]).request.pc (s[i]).request.call (s[i]).request.args (s[i]).request.data (s[i]).result.value.tag (s[i]).result.value.val (s[i]).result.value.region (s[i]).result.value.offset (s[i]).result.data (s[i]).result.spawn (s[i]).result.wait (hE i bL);cases h:vF s[i] with
  |false=>
   have e:=yA bL fp h;have Xx:bW X 111 [Entry.e s[i]]=some (.bool true):=by rw[Entry.bS];rw[hf];exact congrArg (fun b=>some (V.bool !b)) h
   simp only[Entry.bS]at Xx;simp[df,bL, -vH,Xx,e,Entry.bS]
  |true=>
   rw[h]at up;have Xx:bW X 111 [Entry.e s[i]]=some (.bool false):=by rw[Entry.bS];rw[hf];exact congrArg (fun b=>some (V.bool !b)) h
   simp only[Entry.bS]at Xx;simp[df,ie,bL, -vH,Xx,up,Entry.bS]
 ·rintro S ⟨df,fp⟩;simp[df]<;>(
   rw[abi]at fp;exact(wg fp).symm)
 ·simp[]<;>(
   rfl)
@[simp]def Ka(s:List Entry)(hm:s.length<=1000000000)(hE: ∀i (h:i<s.length),Sy s[i]):bW X 110 [s,.fn 111 [] []]=some (.bool (!(s.all vF))):=by
 refine aaA ?_;simp[hm,hE,we]
def afu(f:dF)(r k:Int):Bool:=qA f&& (decide (f.dP=r)&&decide (f.time=k))
def OM(p:Prog)(r k:Int)(s:List dF×aO)(f:dF):List dF×aO:=if afu f r k=true then(s.1++ [f],mG p s.2 f) else s
def nX(p:Prog)(fs:List dF)(r k:Int)(m:aO)(i:Nat):List dF×aO:=(fs.take i).foldl (OM p r k) ([],m)
def Uf(p:Prog)(fs:List dF)(r k:Int)(m:aO):nX p fs r k m 0=([],m):=rfl
def Lv(p:Prog)(r k:Int)(m:aO)(h:i<fs.length):nX p fs r k m (i+1)=OM p r k (nX p fs r k m i) fs[i]:=by unfold nX;rw[fD h,acX];rfl
def Kb(p:Prog)(fs:List dF)(r k:Int)(m:aO)(i:Nat):(nX p fs r k m i).1.length<=i:=by
 induction i with
 |zero=>simp[Uf]
 |succ i ih=>
  by_cases h:i<fs.length
  ·rw[Lv p r k m h];unfold OM;split
   ·simp;exact ih
   ·omega
  ·unfold nX at ih⊢;rw[aZ (by omega)]at ih;rw[aZ (by omega)];omega
def ON{Ok:aO->Prop}(hA: ∀m f,Ok m->Ok (mG p m f))(fs:List dF)(r k:Int)(h:Ok m)(i:Nat):Ok (nX p fs r k m i).2:=by
 induction i with
 |zero=>exact h
 |succ i ih=>
  by_cases g:i<fs.length
  ·rw[Lv p r k m g];unfold OM;split
   ·exact hA _ _ ih
   ·exact ih
  ·unfold nX at ih⊢;rw[aZ (by omega)]at ih;rw[aZ (by omega)];exact ih
def zZ(p:Prog)(C:aO->Entry->aO×Request×Bool)(fs:List dF)(r:Int):List Entry->Int->aO->aO×Int
 | [],k,m=>(m,k)
 |x::es,k,m=>if(C (nX p fs r k m fs.length).2 x).2.2=false\/x.kind=1/\(¬(C (nX p fs r k m fs.length).2 x).2.1=x.request\/afn (C (nX p fs r k m fs.length).2 x).2.1 (nX p fs r k m fs.length).1=false) then((nX p fs r k m fs.length).2,k)
  else zZ p C fs r es (k+1) (C (nX p fs r k m fs.length).2 x).1
def amk:Entry:=⟨0,0,0,xm,⟨⟨0,0,0,0⟩,[],0,false⟩⟩
def SA(p:Prog)(C:aO->Entry->aO×Request×Bool)(fs:List dF)(r:Int)(es:List Entry)(m:aO):Nat->aO
 |0=>m
 |i+1=>(C (nX p fs r i (SA p C fs r es m i) fs.length).2 (es.getD i amk)).1
def a3i(p:Prog)(C:aO->Entry->aO×Request×Bool)(fs:List dF)(r:Int)(es:List Entry)(m:aO):SA p C fs r es m 0=m:=rfl
def a3j(p:Prog)(C:aO->Entry->aO×Request×Bool)(fs:List dF)(r:Int)(m:aO)(h:i<es.length):SA p C fs r es m (i+1)=(C (nX p fs r i (SA p C fs r es m i) fs.length).2 es[i]).1:=by
 rw[SA];simp[List.getD,h]
def a3k(p:Prog)(C:aO->Entry->aO×Request×Bool)(Ok Ok':aO->Prop)(g:FuncId)(e:Entry):Prop:= ∀m,Ok m->bW X g [KKk p,KKK m,
  (KKi e:V)]=
 some (.dM [KKK (C m e).1,
  (KKW (C m e).2.1:V),.bool (C m e).2.2])/\Ok' (C m e).1/\auz (C m e).2.1
def Xc (p:Prog) (C:aO->Entry->aO×Request×Bool) (fs:List dF) (r k:Int) (m:aO)   (h:i<es.length)    {b:Bool}
  (h1:nX p fs r k m fs.length=(now,m1)) (h2:C m1 es[i]=(m2,q,b)):zZ p C fs r (es.drop i) k m=if b=false\/(es[i]).kind=1/\(¬q=(es[i]).request\/afn q now=false) then(m1,k) else zZ p C fs r (es.drop (i+1)) (k+1) m2:=by
 rw[acE h,zZ,h1];simp only[h2]
@[simp]def DZ(ax:List Instr)(ae:List Int)(ay:List (List Int))(aw:List Int)(bK:Int)(entries:List Entry)(dV:List dF)(dP:Int)(C:aO->Entry->aO×Request×Bool)(Ok:Nat->aO->Prop)(m0:aO)(hSt:bW X 85 [KKQ ax ae ay,KKc aw bK]=some (.dM [KKK m0,.int .i64 0]))(bcl:entries.all vF=true)(hEL: ∀i (h:i<entries.length),Sy entries[i])(hen:entries.length<=1000000)(hfn:dV.length<=1000000)(hOk: ∀i m,Ok i m-> ∃d,db (Prog.mk ax ae ay) d m/\d<=1099511627776)(hA: ∀i m f,Ok i m->Ok i (mG (Prog.mk ax ae ay) m f))(hC: ∀i (h:i<entries.length),a3k (Prog.mk ax ae ay) C (Ok i) (Ok (i+1)) 21 entries[i])(h0:Ok 0 m0):bW X 54 [KKQ ax ae ay,KKc aw bK,.sl false (entries.map Entry.e),.sl false (dV.map dF.e),.int .i64 dP]=some (.dM [KKK ((zZ (Prog.mk ax ae ay) C dV dP entries 0 m0).1),.int .i64 ((zZ (Prog.mk ax ae ay) C dV dP entries 0 m0).2)]):=by
 refine aaA ?_;have bcm:entries.length<=1000000000:=by omega
 have hcf:=Ka entries bcm hEL;rw[bcl]at hcf;simp[-Ka,hSt,hcf];refine cZ (fun i S=>(S.f 2=entries/\S.f 3= .sl false (dV.map dF.e)/\S.f 4= .int .i64 dP/\S.f 5= .ptr 5 0 0/\S.h 5=some ⟨3,[KKk ((Prog.mk ax ae ay))],true⟩/\S.f 10= .ptr 10 0 0/\S.h 10=some ⟨5,[KKK iT],true⟩/\S.f 12= .ptr 12 0 0/\S.h 12=some ⟨5,[KKK (SA (Prog.mk ax ae ay) C dV dP entries m0 i)],true⟩/\S.f 35= .sl false ((entries).map Entry.e)/\S.f 36= .int .i64 ((entries.length:Int))/\S.f 37= .int .i64 ((i:Int))/\S.n=1100)/\(zZ (Prog.mk ax ae ay) C dV dP entries 0 m0=zZ (Prog.mk ax ae ay) C dV dP (entries.drop i) i (SA (Prog.mk ax ae ay) C dV dP entries m0 i)/\Ok i (SA (Prog.mk ax ae ay) C dV dP entries m0 i))) (entries.length) (by omega) ?_ ?_ ?_
 ·rintro i S ⟨pq,ie,bL⟩ ⟨df,fp⟩;obtain⟨hR,hM⟩:=fp;have us:=a3j (Prog.mk ax ae ay) C dV dP m0 bL;obtain⟨m1,sT⟩: ∃x,SA (Prog.mk ax ae ay) C dV dP entries m0 i=x:=⟨_,rfl⟩;rw[sT]at hR hM us;simp[df,bL];refine cZ (fun j S=>(S.f 2=entries/\S.f 3= .sl false (dV.map dF.e)/\S.f 4= .int .i64 dP/\S.f 5= .ptr 5 0 0/\S.h 5=some ⟨3,[KKk ((Prog.mk ax ae ay))],true⟩/\S.f 10= .ptr 10 0 0/\S.h 10=some ⟨5,[KKK iT],true⟩/\S.f 12= .ptr 12 0 0/\S.h 12=some ⟨5,[KKK ((nX (Prog.mk ax ae ay) dV dP i m1 j).2)],true⟩/\S.f 14= .int .i64 ((i:Int))/\S.f 15= .ptr 15 0 0/\S.h 15=some ⟨18,[KKi (entries[i])],true⟩/\S.f 16= .cu 16 0 ((((nX (Prog.mk ax ae ay) dV dP i m1 j).1).map dF.e)).length/\S.h 16=some ⟨6,(((nX (Prog.mk ax ae ay) dV dP i m1 j).1).map dF.e),false⟩/\S.f 35= .sl false ((entries).map Entry.e)/\S.f 36= .int .i64 ((entries.length:Int))/\S.f 37= .int .i64 ((i:Int))/\S.f 42= .sl false (dV.map dF.e)/\S.f 43=((dV).length:Int)/\S.f 44=(j:Int)/\S.n=1100)/\True) (dV.length) (by omega) ?_ ?_ ?_
  ·rintro j S ⟨mz,vp,jP⟩ ⟨mA,sF⟩;have hs:=Lv (Prog.mk ax ae ay) dP i m1 jP;have hlen:=Kb (Prog.mk ax ae ay) dV dP i m1 j;have lj:=ON (Ok:=Ok i) (p:=(Prog.mk ax ae ay)) (hA i) dV dP i hM j;obtain⟨⟨now,m2⟩,hh⟩: ∃x,nX (Prog.mk ax ae ay) dV dP i m1 j=x:=⟨_,rfl⟩;rw[hh]at hs hlen lj;simp only at hlen lj;obtain⟨d,HG,hd⟩:=hOk i m2 lj;obtain⟨⟨ft,fr,fk,fth,fw,fb⟩,hf⟩: ∃x,dV[j]=x:=⟨_,rfl⟩;rw[hf]at hs;have DN:(j:Int)<dV.length:=by omega
   by_cases c1:qA ⟨ft,fr,fk,fth,fw,fb⟩=true
   case neg=>
    have XW:qA ⟨ft,fr,fk,fth,fw,fb⟩=false:=by simpa using c1
    have e1:OM (Prog.mk ax ae ay) dP i (now,m2) ⟨ft,fr,fk,fth,fw,fb⟩=(now,m2):=if_neg (by unfold afu;rw[XW];simp);rw[e1]at hs;simp[mA,vp,jP,hh,hs,hf,XW,DN]
   by_cases c2:fr=dP
   case neg=>
    have e1:OM (Prog.mk ax ae ay) dP i (now,m2) ⟨ft,fr,fk,fth,fw,fb⟩=(now,m2):=if_neg (by unfold afu;rw[c1];simp[c2]);rw[e1]at hs;simp[mA,vp,jP,hh,hs,hf,c1,c2,DN]
   subst c2;by_cases c3:ft=(i:Int)
   case neg=>
    have e1:OM (Prog.mk ax ae ay) fr i (now,m2) ⟨ft,fr,fk,fth,fw,fb⟩=(now,m2):=if_neg (by unfold afu;rw[c1];simp[c3]);rw[e1]at hs;simp[mA,vp,jP,hh,hs,hf,c1,c3,DN]
   subst c3;have hAp:=kK ax ae ay m2.layout.aD m2.layout.key m2.memory.cells m2.memory.lines m2.threads i fr fk fth fw fb d HG hd;rw[show aO.mk ⟨m2.layout.aD,m2.layout.key⟩ ⟨m2.memory.cells,m2.memory.lines⟩ m2.threads=m2 from rfl]at hAp;have e1:OM (Prog.mk ax ae ay) fr i (now,m2) ⟨i,fr,fk,fth,fw,fb⟩=(now++ [⟨i,fr,fk,fth,fw,fb⟩],mG (Prog.mk ax ae ay) m2 ⟨i,fr,fk,fth,fw,fb⟩):=if_pos (by unfold afu;rw[c1];simp);rw[e1]at hs;have tkn:List.take now.length (now.map dF.e)=now.map dF.e:=aZ (by simp);have bd:(now.length+1)*48<=140737488355328/\now.length<=4611686018427387903:=by omega
   simp[mA,vp,jP, -kK,hh,hs,hf,c1,DN,hAp,tkn,bd,dF.bS]
  ·rintro S ⟨mA,sF⟩;have lj:=ON (Ok:=Ok i) (p:=(Prog.mk ax ae ay)) (hA i) dV dP i hM dV.length;obtain⟨⟨now,m2⟩,hh⟩: ∃x,nX (Prog.mk ax ae ay) dV dP i m1 dV.length=x:=⟨_,rfl⟩;have Yl:=Kb (Prog.mk ax ae ay) dV dP i m1 dV.length;rw[hh]at lj us Yl;simp only at lj us Yl;obtain⟨OO,amm,SU⟩:=hC i bL m2 lj;obtain⟨⟨m3,q,b⟩,hc⟩: ∃x,C m2 entries[i]=x:=⟨_,rfl⟩;have vY:=Xc (Prog.mk ax ae ay) C dV dP i m1 bL hh hc;rw[hc]at OO amm SU us;simp only at OO amm SU us;rw[<-hR]at vY;have tkn:List.take now.length (now.map dF.e)=now.map dF.e:=aZ (by simp);have Hm:=bH q.dd q.stop q.dn q.count q.pc q.call q.args q.data (entries[i]).request.dd (entries[i]).request.stop (entries[i]).request.dn (entries[i]).request.count (entries[i]).request.pc (entries[i]).request.call (entries[i]).request.args (entries[i]).request.data (by have:=SU.a;omega) (by have:=SU.d;omega);have afv:=mK q.dd q.stop q.dn q.count q.pc q.call q.args q.data now (by omega) SU.a SU.d SU.av SU.dv;rw[show Request.mk q.dd q.stop q.dn q.count q.pc q.call q.args q.data=q from rfl]at afv Hm;rw[show Request.mk (entries[i]).request.dd (entries[i]).request.stop (entries[i]).request.dn (entries[i]).request.count (entries[i]).request.pc (entries[i]).request.call (entries[i]).request.args (entries[i]).request.data=(entries[i]).request from rfl]at Hm;cases b with
   |false=>
    rw[if_pos (.inl rfl)]at vY;simp[mA, -bH, -mK,hh,OO,vY]
   |true=>
    by_cases k1:(entries[i]).kind=1
    case neg=>
     rw[if_neg (by simp[k1])]at vY;simp[ie,bL,mA, -bH, -mK,hh,OO,vY,k1,us,amm]
    rw[k1]at OO;by_cases s1:q=(entries[i]).request
    case neg=>
     rw[if_pos (.inr ⟨k1,.inl s1⟩)]at vY;rw[decide_eq_false s1]at Hm;simp[mA, -bH, -mK,hh,OO,vY,k1,Hm]
    rw[decide_eq_true s1]at Hm;cases a1:afn q now with
    |false=>
     rw[if_pos (.inr ⟨k1,.inr a1⟩)]at vY;rw[a1]at afv;simp[mA, -bH, -mK,hh,OO,vY,k1,Hm,afv,tkn]
    |true=>
     rw[if_neg (by rw[a1];simp[s1])]at vY;rw[a1]at afv;simp[ie,bL,mA, -bH, -mK,hh,OO,vY,k1,Hm,afv,tkn,us,amm]
  ·simp[df,Uf,sT]
 ·rintro S ⟨df,fp⟩;have Fx:zZ (Prog.mk ax ae ay) C dV dP (entries.drop entries.length) entries.length (SA (Prog.mk ax ae ay) C dV dP entries m0 entries.length)=(SA (Prog.mk ax ae ay) C dV dP entries m0 entries.length,(entries.length:Int)):=by rw[List.drop_length];rfl
  have hRR:=fp.1;rw[Fx]at hRR;simp[df,hRR]
 ·simp[a3i,h0];exact⟨rfl,rfl,rfl,rfl,rfl⟩
@[simp]def afw(ax:List Instr)(ae:List Int)(ay:List (List Int))(aa:List Int)(aq:Int)(ak:List Cell)(ah:List cy)(au:List Thread)(kW cR vG bQ dy dW dH fq dX:Int)(dD dE:List Canon)(dw dx cT cU:Int)(dT:List Canon)(dY:Int)(eH:Bool)(d:Int)(HG:db (Prog.mk ax ae ay) d (aO.mk (Layout.mk aa aq) (aF.mk ak ah) au))(hd:d<=1099511627776)(hE:Sy (Entry.mk kW cR vG (Request.mk bQ dy dW dH fq dX dD dE) (lL.mk (Canon.mk dw dx cT cU) dT dY eH)))(hv:vF (Entry.mk kW cR vG (Request.mk bQ dy dW dH fq dX dD dE) (lL.mk (Canon.mk dw dx cT cU) dT dY eH))=true)(hk:kW=1):bW X 21 [KKQ ax ae ay,KKY aa aq ak ah au,KKm kW cR vG bQ dy dW dH fq dX dD dE dw dx cT cU dT dY eH]=some (.dM [KKK ((gN (Prog.mk ax ae ay) (aO.mk (Layout.mk aa aq) (aF.mk ak ah) au) cR vG).1),KKW ((gN (Prog.mk ax ae ay) (aO.mk (Layout.mk aa aq) (aF.mk ak ah) au) cR vG).2.1),.bool true]):=by
 refine aaA ?_;have h1:dD.length<=1000000000:=abG hE.a (by omega);have h2:dE.length<=1000000000:=abG hE.d (by omega);have h3:dT.length<=1000000000:=abG hE.r (by omega);have hV:=zm kW cR vG bQ dy dW dH fq dX dD dE dw dx cT cU dT dY eH h1 h2 h3;rw[hv]at hV;have hm:jU (Prog.mk ax ae ay) (aO.mk (Layout.mk aa aq) (aF.mk ak ah) au)=true:=(HG.mono hd).ok;have hp:=HG.prog.lens;have tw:=HG.lens;have ht:0<=cR/\cR<4/\1<=vG/\vG<=64:=by
  unfold vF at hv;simp only[aaF,decide_eq_true_eq]at hv;obtain⟨t0,t4,hv⟩:=hv;unfold Sx at hv;rw[if_pos hk]at hv;simp only[aaF,decide_eq_true_eq]at hv;exact⟨t0,t4,hv.1,hv.2.1⟩
 have hT:=Uc ax ae ay aa aq ak ah au cR vG HG.R hm ⟨ht.1,ht.2.1⟩ ht.2.2;obtain⟨⟨m3,q,z⟩,hq⟩: ∃x,gN (Prog.mk ax ae ay) (aO.mk (Layout.mk aa aq) (aF.mk ak ah) au) cR vG=x:=⟨_,rfl⟩;rw[hq]at hT⊢;subst hk;simp[-zm, -Ud, -Uc,hV,hm,hp,tw,hT]
def RU.l(h:RU q):auz q:=⟨by have:=h.args;omega,by have:=h.data;omega,fun i g=>h.av _ (aaL g),fun i g=>h.dv _ (aaL g)⟩
def Xg(HG:db p d m)(hd:d+64<=1099511627776)(ht:0<=t/\t<4)(hn:1<=n/\n<=64):db p (d+64) (gN p m t n).1/\auz (gN p m t n).2.1:=by
 obtain⟨k,rfl⟩:=aaG ht.1;by_cases hs:(cg m k).state=1
 ·obtain⟨m',q,e,h1,_,_,h2,_⟩:=B4 HG hd (t:=k) (by omega) hn hs;rw[e];exact⟨h1,h2.l⟩
 ·have hv:jU p m=true:=(HG.mono (by omega)).ok;have e1:dN p m k n=(m,3):=by unfold dN;exact if_neg hs
  have e:gN p m k n=((mw p m k 3).1,(mw p m k 3).2,0):=by
   unfold gN;rw[if_pos ⟨hv,ht,hn.1,hn.2⟩,aaH,e1]
  have e2:mw p m k 3=(m,⟨k,3,if(3:Int)=2 then(cg m k).dn else 0,(cg m k).count,(cg m k).pc,0,[],[]⟩):=by unfold mw;rw[if_neg (by decide)]
  rw[e,e2];exact⟨HG.mono (by omega),by simp,by simp,fun i g=>by simp at g,fun i g=>by simp at g⟩
def a3l(hd:d+64<=1099511627776){e:Entry}(hE:Sy e)(hv:vF e=true)(hk:e.kind=1):a3k p (fun m e=>((gN p m e.dd e.n).1,(gN p m e.dd e.n).2.1,true)) (db p d) (db p (d+64)) 21 e:=by
 intro m HG;have ht:(0<=e.dd/\e.dd<4)/\1<=e.n/\e.n<=64:=by
  unfold vF at hv;simp only[aaF,decide_eq_true_eq]at hv;obtain⟨t0,t4,hv⟩:=hv;unfold Sx at hv;rw[if_pos hk]at hv;simp only[aaF,decide_eq_true_eq]at hv;exact⟨⟨t0,t4⟩,hv.1,hv.2.1⟩
 have h1:=Xg HG hd ht.1 ht.2;refine⟨?_,h1.1,h1.2⟩;obtain⟨k,t,n,⟨q1,q2,q3,q4,q5,q6,q7,q8⟩,⟨⟨r1,r2,r3,r4⟩,r5,r6,r7⟩⟩:=e;exact afw p.code p.an p.data m.layout.aD m.layout.key m.memory.cells m.memory.lines m.threads k t n q1 q2 q3 q4 q5 q6 q7 q8 r1 r2 r3 r4 r5 r6 r7 d HG (by omega) hE hv hk
def IJ:Prog:=⟨[⟨1,0,0,0,5⟩,⟨18,0,0,0,2⟩,⟨23,0,0,0,0⟩],[1],[[]]⟩
def a3M:aO:=gF IJ ⟨[3],0⟩
def Ug:List Entry:=[⟨1,0,1,⟨0,0,0,1,2,0,[],[]⟩,⟨⟨0,0,0,0⟩,[],0,false⟩⟩,⟨1,0,1,⟨0,1,0,1,3,0,[⟨0,5,0,0⟩],[]⟩,⟨⟨0,0,0,0⟩,[],0,false⟩⟩]
def a3F:List dF:=[⟨1,0,1,0,0,1⟩]
def a3C(m:aO)(e:Entry):aO×Request×Bool:=((gN IJ m e.dd e.n).1,(gN IJ m e.dd e.n).2.1,true)
def afx:rn IJ:=NC (by decide+kernel)
def afy:ov [3] [1]:=mU.1 (by decide+kernel)
def au0:db IJ 0 a3M:=JV afx (fun d hd x hx=>by simp[IJ]at hd;subst hd;cases hx) afy (by simp)
def amn:(zZ IJ a3C a3F 0 Ug 0 a3M).2=1:=by decide+kernel
def amo:(zZ IJ a3C [] 0 Ug 0 a3M).2=2:=by decide+kernel
def afz:Ug.all vF=true:=by decide+kernel
def Uh: ∀i (h:i<Ug.length),Sy Ug[i]:=fun i h=>by
 have h2:i<2:=h;have:i=0\/i=1:=by omega
 rcases this with rfl|rfl<;>exact⟨by simp[Ug],by simp[Ug],by simp[Ug]⟩
def amp: ∀i (h:i<Ug.length),(Ug[i]).kind=1:=fun i h=>by
 have h2:i<2:=h;have:i=0\/i=1:=by omega
 rcases this with rfl|rfl<;>rfl
def af0(fs:List dF)(hf:fs.length<=1000000): ∃bs key cs ls ts,bW X 54 [KKk IJ,KKc [3] 0,.sl false (Ug.map Entry.e),.sl false (fs.map dF.e),.int .i64 0]=
  some (.dM [KKY bs key cs ls ts,.int .i64 (zZ IJ a3C fs 0 Ug 0 a3M).2]):=by
 have h:=DZ IJ.code IJ.an IJ.data [3] 0 Ug fs 0 a3C (fun i m=>db IJ (1000001+64*i) m/\i<=2) a3M
  (amj IJ.code IJ.an IJ.data [3] 0 afx afy) afz Uh (by decide) hf
  (fun i m hm=>⟨_,hm.1,by have:=hm.2;omega⟩) (fun i m f hm=>⟨wE hm.1 (adO _) (by have:=hm.2;omega) f,hm.2⟩)
  (fun i hi m hm=>by
   have En:i<2:=hi;obtain⟨c1,c2,c3⟩:=a3l (p:=IJ) (d:=1000001+64*i) (by omega) (Uh i hi) (List.all_eq_true.1 afz _ (aaL hi)) (amp i hi) m hm.1;refine⟨c1,⟨?_,by omega⟩,c3⟩;exact c2.mono (by omega))
  ⟨au0.mono (by omega),by omega⟩
 exact⟨_,_,_,_,_,h⟩
@[simp]def Xh:bW X 39 []=some (.bool true):=by
 obtain⟨b1,k1,c1,l1,t1,R1⟩:=af0 a3F (by decide);obtain⟨b2,k2,c2,l2,t2,R2⟩:=af0 [] (by decide);rw[amn]at R1;rw[amo]at R2;simp only[IJ,Ug,a3F,aaU,abI,Instr.bS,AL,Entry.bS,dF.bS,Canon.bS]at R1 R2;have hF:qA ⟨1,0,1,0,0,1⟩=true:=by decide
 refine aaA ?_;simp[-DZ,R1,R2,hF]
end Go.Proofs.YtdngefmliibcgaaGreat
