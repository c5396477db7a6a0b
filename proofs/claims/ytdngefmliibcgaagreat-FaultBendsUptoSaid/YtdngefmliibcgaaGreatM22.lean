/- Part of a proof: H20. -/
import Derived.Test.YtdngefmliibcgaaGreatM07
import Derived.Test.YtdngefmliibcgaaGreatM21
set_option linter.all false
set_option maxRecDepth 20000
set_option maxHeartbeats 20000000
namespace Go.Proofs.YtdngefmliibcgaaGreat
open Go Go.Abs Go.Abs.fJ
@[simp] theorem O9:ba X 239 []=some (.sl false (ep.map bT.enc)):=by
 refine aN Tryz.func239 rfl rfl ?_;simp(maxSteps:=10000000) (maxDischargeDepth:=30) (implicitDefEqProofs:=false)[];refine fh (fun i S=>(S.f 1= .bJ 1 0 ((Bx i)).length∧S.h 1=some ⟨3,(Bx i),false⟩∧S.f 5= .int .i64 (4)∧S.f 6= .int .i64 (i:Int)∧S.n=1100)∧True) (4) ?_ 0 (by simp) ?_
 ·rintro i S dQ ⟨eg,jn⟩;have dh:=dY i (by omega);by_cases bk:i<4
  ·have:i=0∨i=1∨i=2∨i=3:=by omega
   rcases this with rfl|rfl|rfl|rfl<;>simp(maxSteps:=10000000) (maxDischargeDepth:=30) (implicitDefEqProofs:=false)[eg,dQ,dh,bk,Bx,j8,bT.aU]<;>decide
  ·have mP:4=i:=by omega
   subst mP;simp(maxSteps:=10000000) (maxDischargeDepth:=30) (implicitDefEqProofs:=false)[eg,dQ,dh,bk]<;>(
    rfl)
 ·simp(maxSteps:=10000000) (maxDischargeDepth:=30) (implicitDefEqProofs:=false)[]<;>(
   exact⟨rfl,rfl⟩)
def uF(l:List Int):List Cell:=l.map fun v=>⟨0,v⟩
theorem yZ(l:List Int):(uF l).length=l.length:=by simp[uF]
@[simp] theorem Pa(l:List Int)(hm:l.length≤100000):ba X 240 [.sl false (l.map (V.int .u16))]=some (.sl false ((uF l).map Cell.enc)):=by
 refine aN Tryz.func240 rfl rfl ?_;simp(maxSteps:=10000000) (maxDischargeDepth:=30) (implicitDefEqProofs:=false)[];refine fh (fun i S=>(S.f 3= .bJ 3 0 (((uF (l.take i)).map Cell.enc)).length∧S.h 3=some ⟨2,((uF (l.take i)).map Cell.enc),false⟩∧S.f 6= .sl false (l.map (V.int .u16))∧S.f 7= .int .i64 ((l).length:Int)∧S.f 8= .int .i64 (i:Int)∧S.n=1100)∧True) (l.length) ?_ 0 (by simp) ?_
 ·rintro i S dQ ⟨eg,jn⟩;have dh:=dY i (by omega);by_cases bk:i<l.length
  ·have hl:=yZ (l.take i);have up:uF (l.take (i+1))=uF (l.take i)++ [⟨0,l[i]⟩]:=by unfold uF;rw[gG bk,List.map_append];rfl
   obtain⟨N,hN⟩: ∃N,uF (l.take i)=N:=⟨_,rfl⟩;rw[hN]at hl up;have sK:min i l.length=i:=by omega
   simp only[List.length_take,sK]at hl;simp(maxSteps:=10000000) (maxDischargeDepth:=30) (implicitDefEqProofs:=false)[eg,dQ,dh,bk,hN,hl,up,Cell.aU];all_goals ((repeat' (first|apply And.intro|intro _))<;>first|omega|rfl|(exact aQ (by simp;omega)))
  ·have mP:l.length=i:=by omega
   subst mP;simp(maxSteps:=10000000) (maxDischargeDepth:=30) (implicitDefEqProofs:=false)[eg,dQ,dh,bk]
 ·simp(maxSteps:=10000000) (maxDischargeDepth:=30) (implicitDefEqProofs:=false)[uF]
theorem Hu(cells:List Cell)(b:Nat)(d:List Int): ∀k,k≤d.length→b+d.length≤cells.length→ ∀i,(pI cells b d k)[i]?=if b≤i∧i<b+k then(cells[i]?).map (fun c=>⟨c.tag,nth d (i-b)⟩) else cells[i]?
 |0,_,_,i=>by rw[JP,if_neg (by omega)]
 |k+1,hk,hl,i=>by
  have ih:=Hu cells b d k (by omega) hl;have hlen:=DB cells b d k;rw[pI,List.getElem?_set];by_cases e:b+k=i
  ·subst e;rw[if_pos rfl,if_pos (by omega),if_pos (by omega)];have h0:(pI cells b d k)[b+k]?=cells[b+k]?:=by rw[ih,if_neg (by omega)]
   have h1:b+k<cells.length:=by omega
   simp only[List.getD_eq_getElem?_getD,h0,List.getElem?_eq_getElem h1,Option.getD_some,Option.map_some,Nat.add_sub_cancel_left]
  ·rw[if_neg e,ih];by_cases g:b≤i∧i<b+k
   ·rw[if_pos g,if_pos (by omega)]
   ·rw[if_neg g,if_neg (by omega)]
theorem Km{cells:List Cell}{b:Nat}{d:List Int}(hl:b+d.length≤cells.length)(h0: ∀c∈cells,c.tag=0):pI cells b d d.length=cells.take b++uF d++cells.drop (b+d.length):=by
 apply List.ext_getElem?;intro i;have hb:(cells.take b).length=b:=by simp;omega
 have hn:=yZ d;rw[Hu _ _ _ _ (Nat.le_refl _) hl];by_cases g1:i<b
 ·rw[if_neg (by omega),List.append_assoc,List.getElem?_append_left (by omega),List.getElem?_take_of_lt g1]
 by_cases g2:i<b+d.length
 ·rw[if_pos (by omega),List.getElem?_append_left (by simp;omega),List.getElem?_append_right (by omega),hb];have h1:i<cells.length:=by omega
  have h2:i-b<d.length:=by omega
  unfold uF;rw[List.getElem?_eq_getElem h1,List.getElem?_map,List.getElem?_eq_getElem h2,Option.map_some,Option.map_some,h0 _ (List.getElem_mem h1),db h2]
 ·rw[if_neg (by omega),List.getElem?_append_right (by simp;omega),List.getElem?_drop];congr 1;simp;omega
theorem y0{cells:List Cell}{b:Nat}{d:List Int}(h0: ∀c∈cells,c.tag=0): ∀k,∀c∈pI cells b d k,c.tag=0
 |0,c,h=>h0 c h
 |k+1,c,h=>by
  rw[pI]at h;rcases List.mem_or_eq_of_mem_set h with h|rfl
  ·exact y0 h0 k c h
  ·simp only[List.getD_eq_getElem?_getD];cases e:(pI cells b d k)[b+k]? with
   |none=>rfl
   |some x=>exact y0 h0 k x (List.mem_of_getElem? e)
theorem DY(p:Prog)(aE:List Int): ∀r,∀c∈oY p aE r,c.tag=0
 |0,c,h=>by rw[Az]at h;rw[(List.mem_replicate.1 h).2]
 |r+1,c,h=>y0 (DY p aE r) _ c h
@[simp] theorem Wv(ay:List Instr)(aw:List Int)(aA:List (List Int))(aD:List Int)(eh:Int)(hp:rA (Prog.mk ay aw aA))(hL:pE aD aw):ba X 167 [.agg [.sl false (ay.map Instr.enc),.sl false (aw.map (V.int .i64)),.sl false (aA.map bE)],.agg [.sl false (aD.map (V.int .i64)),.int .u16 eh]]=some (.cg [.agg [.sl false (((⟨oY (Prog.mk ay aw aA) aD aA.length,ep⟩:aF)).cells.map Cell.enc),.sl false (((⟨oY (Prog.mk ay aw aA) aD aA.length,ep⟩:aF)).lines.map bT.enc)],.int .i64 0]):=by
 refine aN Tryz.func167 rfl rfl ?_;have hz:=hp.aq;simp only at hz;have z4:=hz.le;have hlen:aA.length=aw.length:=hp.len;have hb:aD.length=aw.length:=hL.len;have jF:=ln.2 hL;have b1:aD.length≤1000000000∧aw.length≤1000000000:=by omega
 have hle:(ep.map bT.enc).length=4:=rfl;simp(maxSteps:=10000000) (maxDischargeDepth:=30) (implicitDefEqProofs:=false)[jF,b1,hlen];refine fh (fun r S=>(S.f 2= .ptr 2 0 0∧S.h 2=some ⟨3,[.agg [.sl false (ay.map Instr.enc),.sl false (aw.map (V.int .i64)),.sl false (aA.map bE)]],true⟩∧S.f 3= .ptr 3 0 0∧S.h 3=some ⟨2,[.agg [.sl false (aD.map (V.int .i64)),.int .u16 eh]],true⟩∧S.f 4= .ptr 4 0 0∧S.h 4=some ⟨2,[.agg [.sl false (([]:List Cell).map Cell.enc),.sl false (([]:List bT).map bT.enc)]],true⟩∧S.f 6= .ptr 6 0 0∧S.h 1000=some ⟨2,(⟨oY (Prog.mk ay aw aA) aD r,ep⟩:aF).cells.map Cell.enc,false⟩∧S.h 6=some ⟨2,[.agg [.bJ 1000 0 ((⟨oY (Prog.mk ay aw aA) aD r,ep⟩:aF).cells.map Cell.enc).length,.sl false ((⟨oY (Prog.mk ay aw aA) aD r,ep⟩:aF).lines.map bT.enc)]],true⟩∧S.f 28= .sl false (aA.map bE)∧S.f 29= .int .i64 ((aA).length:Int)∧S.f 30= .int .i64 (r:Int)∧S.n=1101)∧True) (aA.length) ?_ 0 (by simp) ?_
 ·rintro r S hir ⟨eg,jn⟩;have LK:=dY r (by omega);by_cases RR:r<aA.length
  ·have r1:r<aw.length:=by omega
   have r2:r<aD.length:=by omega
   have hd:((aA[r]).length:Int)≤aw[r]:=hp.data r RR r1;have zC: ¬aw[r]<((aA[r]).length:Int):=by omega
   have IE:=hL.base r r2 r1;have Zv:=hz.elem r r1;obtain⟨b,hbe⟩: ∃b:Nat,aD[r]=b:=⟨(aD[r]).toNat,by omega⟩;have KG:=DC (Prog.mk ay aw aA) aD r;have wG:oY (Prog.mk ay aw aA) aD (r+1)=(oY (Prog.mk ay aw aA) aD r).take b++uF aA[r]++(oY (Prog.mk ay aw aA) aD r).drop (b+(aA[r]).length):=by
    rw[Q2 _ _ RR,db r2,hbe];exact Km (by simp only;omega) (DY _ _ r)
   have Pr:=yZ aA[r];have T4:(aA[r]).length≤100000:=by omega
   obtain⟨N,hN⟩: ∃N,uF aA[r]=N:=⟨_,rfl⟩;rw[hN]at Pr wG;obtain⟨M,hM⟩: ∃M,oY (Prog.mk ay aw aA) aD r=M:=⟨_,rfl⟩;rw[hM]at KG wG;obtain⟨n,hn⟩: ∃n,(aA[r]).length=n:=⟨_,rfl⟩;rw[hn]at Pr wG hd zC T4;have ahj:b≤512:=by omega
   have sK:min n (512-b)=n:=by omega
   have zj:(0:Int)≤b∧(b:Int)≤512:=by omega
   have XE:List.take n (N.map Cell.enc)=N.map Cell.enc:=aQ (by simp;omega);have e3:List.take b (M.map Cell.enc)++N.map Cell.enc++List.drop (b+n) (M.map Cell.enc)=(M.take b++N++M.drop (b+n)).map Cell.enc:=by simp[List.map_take,List.map_drop]
   simp(maxSteps:=10000000) (maxDischargeDepth:=30) (implicitDefEqProofs:=false)[eg,hir,LK,RR,r1,r2,hd,zC,hM,hN,hn,T4,hbe,KG,Pr,sK,zj,ahj,XE,wG];omega
  ·have her:aA.length=r:=by omega
   subst her;simp(maxSteps:=10000000) (maxDischargeDepth:=30) (implicitDefEqProofs:=false)[eg,hir,LK,RR]<;>(
    rw[hlen])
 ·simp(maxSteps:=10000000) (maxDischargeDepth:=30) (implicitDefEqProofs:=false)[]<;>(
   simp[Az,hlen,Cell.aU])
def qv:Thread:=⟨0,List.replicate 8 ⟨0,0⟩,0,0, -1, -1,0,0⟩
@[simp] theorem Pb:ba X 168 []=some (.agg [.int .i64 qv.state,.sl false (qv.aO.map Cell.enc),.int .i64 qv.pc,.int .i64 qv.count,.int .i64 qv.bK,.int .i64 qv.saved,.int .i64 qv.cz,.int .u16 qv.code]):=by
 refine aN Tryz.func168 rfl rfl ?_;simp(maxSteps:=10000000) (maxDischargeDepth:=30) (implicitDefEqProofs:=false)[qv,Cell.aU]
@[simp] theorem RS(ay:List Instr)(aw:List Int)(aA:List (List Int))(aD:List Int)(eh:Int)(hp:rA (Prog.mk ay aw aA))(hL:pE aD aw):ba X 85 [.agg [.sl false (ay.map Instr.enc),.sl false (aw.map (V.int .i64)),.sl false (aA.map bE)],.agg [.sl false (aD.map (V.int .i64)),.int .u16 eh]]=some (.cg [.agg [.sl false ((kJ (Prog.mk ay aw aA) (Layout.mk aD eh)).layout.aE.map (V.int .i64)),.int .u16 (kJ (Prog.mk ay aw aA) (Layout.mk aD eh)).layout.key,.sl false ((kJ (Prog.mk ay aw aA) (Layout.mk aD eh)).memory.cells.map Cell.enc),.sl false ((kJ (Prog.mk ay aw aA) (Layout.mk aD eh)).memory.lines.map bT.enc),.sl false ((kJ (Prog.mk ay aw aA) (Layout.mk aD eh)).threads.map Thread.enc)],.int .i64 0]):=by
 refine aN Tryz.func85 rfl rfl ?_;have hz:=hp.aq;simp only at hz;have z4:=hz.le;have hlen:aA.length=aw.length:=hp.len;have hb:aD.length=aw.length:=hL.len;have jF:=ln.2 hL;have rX:gS (Prog.mk ay aw aA)=0:=Ay hp;have Wg:ay.length≤64:=hp.qk;have b1:aD.length≤1000000000∧aw.length≤1000000000:=by omega
 have b2:aA.length≤1000000000:=by omega
 have b3:ay.length≤1000000000:=by omega
 have b4:aD.length≤4:=by omega
 have hPL:=Wv ay aw aA aD eh hp hL;simp(maxSteps:=10000000) (maxDischargeDepth:=30) (implicitDefEqProofs:=false)[jv,hPL,hp,hL,jF,rX,b1,b2,b3,kJ];all_goals ((repeat' (first|apply And.intro|intro _))<;>first|omega|rfl)
end Go.Proofs.YtdngefmliibcgaaGreat
