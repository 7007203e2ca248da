/-
  Part 20 of the proof of parseTells_holds: texts of this seat, put together.
-/
import Derived.Test.YtjopepfemhckjaaGreatDoorTl19
set_option linter.unusedVariables false
set_option linter.unusedSimpArgs false
set_option maxHeartbeats 16000000
set_option maxRecDepth 100000
section
namespace Go.Proofs.YtjopepfemhckjaaGreatDoor.NW
open Go.Proofs Go.RowKit Go.Shelf Go.Proofs.YtjopepfemhckjaaGreatDoor.PN Go.Proofs.YtjopepfemhckjaaGreatDoorW.PrintWords Go.Proofs.YtjopepfemhckjaaGreatDoor.PParseTells
noncomputable def bodyC:Code:=match Tryz.f19.body with
 |some (.scope c)=>c
 |_=> .skip
structure zJ (g bl:Nat) (a:Act):Prop where
 d:a.defers=[]
 n:a.tmps.size=295
 t0:a.tmps[0]? =some (.pointer (some ⟨g,0,none⟩))
 t2:a.tmps[2]? =some (.pointer (some ⟨bl,0,none⟩))
theorem ofFn_lit (f:Nat→Value):Array.ofFn (n:=295) (fun i=>f i.val)=#[f 0,f 1,f 2,f 3,f 4,f 5,f 6,f 7,f 8,f 9,f 10,f 11,f 12,f 13,f 14,f 15,f 16,f 17,f 18,f 19,f 20,f 21,f 22,f 23,f 24,f 25,f 26,f 27,f 28,f 29,f 30,f 31,f 32,f 33,f 34,f 35,f 36,f 37,f 38,f 39,f 40,f 41,f 42,f 43,f 44,f 45,f 46,f 47,f 48,f 49,f 50,f 51,f 52,f 53,f 54,f 55,f 56,f 57,f 58,f 59,f 60,f 61,f 62,f 63,f 64,f 65,f 66,f 67,f 68,f 69,f 70,f 71,f 72,f 73,f 74,f 75,f 76,f 77,f 78,f 79,f 80,f 81,f 82,f 83,f 84,f 85,f 86,f 87,f 88,f 89,f 90,f 91,f 92,f 93,f 94,f 95,f 96,f 97,f 98,f 99,f 100,f 101,f 102,f 103,f 104,f 105,f 106,f 107,f 108,f 109,f 110,f 111,f 112,f 113,f 114,f 115,f 116,f 117,f 118,f 119,f 120,f 121,f 122,f 123,f 124,f 125,f 126,f 127,f 128,f 129,f 130,f 131,f 132,f 133,f 134,f 135,f 136,f 137,f 138,f 139,f 140,f 141,f 142,f 143,f 144,f 145,f 146,f 147,f 148,f 149,f 150,f 151,f 152,f 153,f 154,f 155,f 156,f 157,f 158,f 159,f 160,f 161,f 162,f 163,f 164,f 165,f 166,f 167,f 168,f 169,f 170,f 171,f 172,f 173,f 174,f 175,f 176,f 177,f 178,f 179,f 180,f 181,f 182,f 183,f 184,f 185,f 186,f 187,f 188,f 189,f 190,f 191,f 192,f 193,f 194,f 195,f 196,f 197,f 198,f 199,f 200,f 201,f 202,f 203,f 204,f 205,f 206,f 207,f 208,f 209,f 210,f 211,f 212,f 213,f 214,f 215,f 216,f 217,f 218,f 219,f 220,f 221,f 222,f 223,f 224,f 225,f 226,f 227,f 228,f 229,f 230,f 231,f 232,f 233,f 234,f 235,f 236,f 237,f 238,f 239,f 240,f 241,f 242,f 243,f 244,f 245,f 246,f 247,f 248,f 249,f 250,f 251,f 252,f 253,f 254,f 255,f 256,f 257,f 258,f 259,f 260,f 261,f 262,f 263,f 264,f 265,f 266,f 267,f 268,f 269,f 270,f 271,f 272,f 273,f 274,f 275,f 276,f 277,f 278,f 279,f 280,f 281,f 282,f 283,f 284,f 285,f 286,f 287,f 288,f 289,f 290,f 291,f 292,f 293,f 294]:=by kernel_rfl
def frm (g bl:Nat)(f:Nat→Value):Act:={tmps:=#[.pointer (some ⟨g,0,none⟩),(f 1),.pointer (some ⟨bl,0,none⟩),(f 3),(f 4),(f 5),(f 6),(f 7),(f 8),(f 9),(f 10),(f 11),(f 12),(f 13),(f 14),(f 15),(f 16),(f 17),(f 18),(f 19),(f 20),(f 21),(f 22),(f 23),(f 24),(f 25),(f 26),(f 27),(f 28),(f 29),(f 30),(f 31),(f 32),(f 33),(f 34),(f 35),(f 36),(f 37),(f 38),(f 39),(f 40),(f 41),(f 42),(f 43),(f 44),(f 45),(f 46),(f 47),(f 48),(f 49),(f 50),(f 51),(f 52),(f 53),(f 54),(f 55),(f 56),(f 57),(f 58),(f 59),(f 60),(f 61),(f 62),(f 63),(f 64),(f 65),(f 66),(f 67),(f 68),(f 69),(f 70),(f 71),(f 72),(f 73),(f 74),(f 75),(f 76),(f 77),(f 78),(f 79),(f 80),(f 81),(f 82),(f 83),(f 84),(f 85),(f 86),(f 87),(f 88),(f 89),(f 90),(f 91),(f 92),(f 93),(f 94),(f 95),(f 96),(f 97),(f 98),(f 99),(f 100),(f 101),(f 102),(f 103),(f 104),(f 105),(f 106),(f 107),(f 108),(f 109),(f 110),(f 111),(f 112),(f 113),(f 114),(f 115),(f 116),(f 117),(f 118),(f 119),(f 120),(f 121),(f 122),(f 123),(f 124),(f 125),(f 126),(f 127),(f 128),(f 129),(f 130),(f 131),(f 132),(f 133),(f 134),(f 135),(f 136),(f 137),(f 138),(f 139),(f 140),(f 141),(f 142),(f 143),(f 144),(f 145),(f 146),(f 147),(f 148),(f 149),(f 150),(f 151),(f 152),(f 153),(f 154),(f 155),(f 156),(f 157),(f 158),(f 159),(f 160),(f 161),(f 162),(f 163),(f 164),(f 165),(f 166),(f 167),(f 168),(f 169),(f 170),(f 171),(f 172),(f 173),(f 174),(f 175),(f 176),(f 177),(f 178),(f 179),(f 180),(f 181),(f 182),(f 183),(f 184),(f 185),(f 186),(f 187),(f 188),(f 189),(f 190),(f 191),(f 192),(f 193),(f 194),(f 195),(f 196),(f 197),(f 198),(f 199),(f 200),(f 201),(f 202),(f 203),(f 204),(f 205),(f 206),(f 207),(f 208),(f 209),(f 210),(f 211),(f 212),(f 213),(f 214),(f 215),(f 216),(f 217),(f 218),(f 219),(f 220),(f 221),(f 222),(f 223),(f 224),(f 225),(f 226),(f 227),(f 228),(f 229),(f 230),(f 231),(f 232),(f 233),(f 234),(f 235),(f 236),(f 237),(f 238),(f 239),(f 240),(f 241),(f 242),(f 243),(f 244),(f 245),(f 246),(f 247),(f 248),(f 249),(f 250),(f 251),(f 252),(f 253),(f 254),(f 255),(f 256),(f 257),(f 258),(f 259),(f 260),(f 261),(f 262),(f 263),(f 264),(f 265),(f 266),(f 267),(f 268),(f 269),(f 270),(f 271),(f 272),(f 273),(f 274),(f 275),(f 276),(f 277),(f 278),(f 279),(f 280),(f 281),(f 282),(f 283),(f 284),(f 285),(f 286),(f 287),(f 288),(f 289),(f 290),(f 291),(f 292),(f 293),(f 294)],defers:=[]}
theorem frame_of0 {g bl:Nat}{a:Act}(h:zJ g bl a):∃f:Nat→Value,a={tmps:=#[.pointer (some ⟨g,0,none⟩),(f 1),.pointer (some ⟨bl,0,none⟩),(f 3),(f 4),(f 5),(f 6),(f 7),(f 8),(f 9),(f 10),(f 11),(f 12),(f 13),(f 14),(f 15),(f 16),(f 17),(f 18),(f 19),(f 20),(f 21),(f 22),(f 23),(f 24),(f 25),(f 26),(f 27),(f 28),(f 29),(f 30),(f 31),(f 32),(f 33),(f 34),(f 35),(f 36),(f 37),(f 38),(f 39),(f 40),(f 41),(f 42),(f 43),(f 44),(f 45),(f 46),(f 47),(f 48),(f 49),(f 50),(f 51),(f 52),(f 53),(f 54),(f 55),(f 56),(f 57),(f 58),(f 59),(f 60),(f 61),(f 62),(f 63),(f 64),(f 65),(f 66),(f 67),(f 68),(f 69),(f 70),(f 71),(f 72),(f 73),(f 74),(f 75),(f 76),(f 77),(f 78),(f 79),(f 80),(f 81),(f 82),(f 83),(f 84),(f 85),(f 86),(f 87),(f 88),(f 89),(f 90),(f 91),(f 92),(f 93),(f 94),(f 95),(f 96),(f 97),(f 98),(f 99),(f 100),(f 101),(f 102),(f 103),(f 104),(f 105),(f 106),(f 107),(f 108),(f 109),(f 110),(f 111),(f 112),(f 113),(f 114),(f 115),(f 116),(f 117),(f 118),(f 119),(f 120),(f 121),(f 122),(f 123),(f 124),(f 125),(f 126),(f 127),(f 128),(f 129),(f 130),(f 131),(f 132),(f 133),(f 134),(f 135),(f 136),(f 137),(f 138),(f 139),(f 140),(f 141),(f 142),(f 143),(f 144),(f 145),(f 146),(f 147),(f 148),(f 149),(f 150),(f 151),(f 152),(f 153),(f 154),(f 155),(f 156),(f 157),(f 158),(f 159),(f 160),(f 161),(f 162),(f 163),(f 164),(f 165),(f 166),(f 167),(f 168),(f 169),(f 170),(f 171),(f 172),(f 173),(f 174),(f 175),(f 176),(f 177),(f 178),(f 179),(f 180),(f 181),(f 182),(f 183),(f 184),(f 185),(f 186),(f 187),(f 188),(f 189),(f 190),(f 191),(f 192),(f 193),(f 194),(f 195),(f 196),(f 197),(f 198),(f 199),(f 200),(f 201),(f 202),(f 203),(f 204),(f 205),(f 206),(f 207),(f 208),(f 209),(f 210),(f 211),(f 212),(f 213),(f 214),(f 215),(f 216),(f 217),(f 218),(f 219),(f 220),(f 221),(f 222),(f 223),(f 224),(f 225),(f 226),(f 227),(f 228),(f 229),(f 230),(f 231),(f 232),(f 233),(f 234),(f 235),(f 236),(f 237),(f 238),(f 239),(f 240),(f 241),(f 242),(f 243),(f 244),(f 245),(f 246),(f 247),(f 248),(f 249),(f 250),(f 251),(f 252),(f 253),(f 254),(f 255),(f 256),(f 257),(f 258),(f 259),(f 260),(f 261),(f 262),(f 263),(f 264),(f 265),(f 266),(f 267),(f 268),(f 269),(f 270),(f 271),(f 272),(f 273),(f 274),(f 275),(f 276),(f 277),(f 278),(f 279),(f 280),(f 281),(f 282),(f 283),(f 284),(f 285),(f 286),(f 287),(f 288),(f 289),(f 290),(f 291),(f 292),(f 293),(f 294)],defers:=[]}:=by
 obtain⟨hd,hn,h0,h2⟩:=h;cases a with
 |mk tmps defers=>
  simp only at hd hn h0 h2;subst hd;refine⟨fun i=>tmps.getD i (.bool false),?_⟩
  have e:tmps=Array.ofFn (n:=295) (fun i=>(fun i=>tmps.getD i (.bool false)) i.val):=by
   apply Array.ext
   ·simp[hn]
   ·intro i h1 h2
    simp[Array.getD,h1]
  have e2:=e.trans (ofFn_lit (fun i=>tmps.getD i (.bool false)))
  have g0:tmps.getD 0 (.bool false)= .pointer (some ⟨g,0,none⟩):=by rw[Array.getD_eq_getD_getElem?,h0];rfl
  have g2:tmps.getD 2 (.bool false)= .pointer (some ⟨bl,0,none⟩):=by rw[Array.getD_eq_getD_getElem?,h2];rfl
  rw[←g0,←g2];exact congrArg (fun t=>Act.mk t []) e2
theorem frame_of {g bl:Nat}{a:Act}(h:zJ g bl a):∃f:Nat→Value,a=frm g bl f:=frame_of0 h
theorem skip_seq {P:Program}{Q:Exit→Act→World→Prop}{c:Code}{a:Act}{w:World}(h:c.wp P Q a w):(Code.skip.seq c).wp P Q a w:=wp_seq (wp_skip h)
theorem atl_mono {P:Program}{Q:Exit→Act→World→Prop}{J:Nat→Nat→Act→World→Prop}(K:Nat)(C:Code)(a:Act)(w:World)(h:C.wp P (zn (fun l' a' w'=>∃k',k'<K∧J k' l' a' w') Q) a w):C.wp P (zn (fun l' a' w'=>∃k',J k' l' a' w') Q) a w:=by
 refine Code.wp_mono ?_ h;intro e a w hh;cases e with
 |goto l=>obtain⟨k',_,hj⟩:=hh;exact⟨k',hj⟩
 |_=>exact hh
theorem scope_two2 {P:Program}{a:Act}{w:World}{Q:Exit→Act→World→Prop}{c t0 t1:Code}(h0:findLabel c 0=some (.seq .skip t0))(h1:findLabel c 1=some (.seq .skip t1))(J:Nat→Nat→Act→World→Prop)(hl:∀k l a w,J k l a w→l=0∨l=1)
 (pass1:∀k K a w,k≤K→J k 1 a w→t1.wp P (zn (fun l' a' w'=>∃k',k'<K∧J k' l' a' w') Q) a w)
 (pass0:∀k K a w,k≤K→(∀k' a w,k'<k→J k' 1 a w→t1.wp P (zn (fun l' a' w'=>∃k',k'<K∧J k' l' a' w') Q) a w)→J k 0 a w→t0.wp P (zn (fun l' a' w'=>∃k',k'<K∧J k' l' a' w') Q) a w)
 (first:(∀k a w,J k 0 a w→t0.wp P (zn (fun l' a' w'=>∃k',J k' l' a' w') Q) a w)→c.wp P (zn (fun l' a' w'=>∃k',J k' l' a' w') Q) a w):(Code.scope c).wp P Q a w:=by
 have p0:∀k K a w,k≤K→J k 0 a w→t0.wp P (zn (fun l' a' w'=>∃k',k'<K∧J k' l' a' w') Q) a w:=
  fun k K a w hk hj=>pass0 k K a w hk (fun k' a w hlt hj'=>pass1 k' K a w (by omega) hj') hj
 exact scope_two h0 h1 J hl (fun k K a w hk hj=>skip_seq (pass1 k K a w hk hj)) (fun k K a w hk _ hj=>skip_seq (p0 k K a w hk hj))
  (fun _=>first (fun k a w hj=>atl_mono k t0 a w (p0 k k a w (xc _) hj)))
theorem lab0_ex:∃t0,findLabel bodyC 0=some (.seq .skip t0):=⟨_,rfl⟩
theorem lab1_ex:∃t1,findLabel bodyC 1=some (.seq .skip t1):=⟨_,rfl⟩
theorem Fr0.below {w w1:World}(h:Below w.heap.size w w1){b:Nat}{o:Obj}(hb:w.heap[b]? =some o):w1.heap[b]? =some o:=(h.block b (xe hb).1).trans hb
theorem qy {P:Program}{Q:Exit→Act→World→Prop}{a:Act}{w:World}{l:Nat}{c:Code}{K:Act→World→Prop}(hK:∀a w,c.wp P Q a w→K a w)(h:c.wp P Q a w):(Code.label l).wp P (Exit.then K Q) a w:=wp_label (hK _ _ h)
theorem zB (w0:World)(g:Nat)(A:Option Addr)(c:Nat)(toks:List S75)(wv:Value)(wait:List S82)(ov:Value)(out:List Nd)(dp e p0 p1:Int)(w:World)(h:PB w0 g A c toks wv wait ov out dp e p0 p1 w):
 Calls Tryz.prog 38 #[.pointer (some ⟨g,0,none⟩)] w fun ex w'=>ex= .returned (.string (hdT toks))∧w=w':=
 (peek_at w0 g A c toks wv wait ov out dp e p0 p1 w h).mono fun _ _ h=>⟨h.1,h.2.symm⟩
theorem cErr0 {t:Code}(hr:findLabel bodyC 0=some (.seq .skip t)){J:Nat→Act→World→Prop}{R:Ending→World→Prop}(w0:World)(g bl:Nat)(last:S75)(f:Nat→Value)(A:Option Addr)(c:Nat)(toks:List S75)(wv:Value)(r:List S82)(ov:Value)(o:List Nd)(dp e p0 p1:Int)(W:World)
 (HP:zc (PB w0 g A c toks wv r.reverse ov o dp e p0 p1 W))(HB:zc (W.heap[bl]? =some (.cells #[.int .i64 last.f0,.string last.f1,.int .i64 last.f2,.int .i64 last.f3] 75)))(he:e≠0)
 (hq:zc (∀a',a'.defers=[]→bodyPost Tryz.prog Tryz.f19 R .ret a' W)):
 t.wp Tryz.prog (zn J (bodyPost Tryz.prog Tryz.f19 R)) (frm g bl f) W:=by
 unfold frm;injection(hr.symm.trans (rfl:findLabel bodyC 0=some (.seq .skip _)))with hr';injection hr' with _ hr';subst hr';clear hr;obtain⟨c0,c1,c2,c3,c4,c5,c6⟩:=HP.out.cells;clear HP HB;go_wp2_with fail;exact hq.out _ rfl
theorem cErr1 {t:Code}(hr:findLabel bodyC 1=some (.seq .skip t)){J:Nat→Act→World→Prop}{R:Ending→World→Prop}(w0:World)(g bl:Nat)(last:S75)(f:Nat→Value)(A:Option Addr)(c:Nat)(toks:List S75)(wv:Value)(r:List S82)(ov:Value)(o:List Nd)(dp e p0 p1:Int)(W:World)
 (HP:zc (PB w0 g A c toks wv r.reverse ov o dp e p0 p1 W))(HB:zc (W.heap[bl]? =some (.cells #[.int .i64 last.f0,.string last.f1,.int .i64 last.f2,.int .i64 last.f3] 75)))(he:e≠0)
 (hq:zc (∀a',a'.defers=[]→bodyPost Tryz.prog Tryz.f19 R .ret a' W)):
 t.wp Tryz.prog (zn J (bodyPost Tryz.prog Tryz.f19 R)) (frm g bl f) W:=by
 unfold frm;injection(hr.symm.trans (rfl:findLabel bodyC 1=some (.seq .skip _)))with hr';injection hr' with _ hr';subst hr';clear hr;obtain⟨c0,c1,c2,c3,c4,c5,c6⟩:=HP.out.cells;clear HP HB;go_wp2_with fail;exact hq.out _ rfl
theorem cOEnd {t:Code}(hr:findLabel bodyC 0=some (.seq .skip t)){tlb:Code}(hr1:findLabel bodyC 1=some (.seq .skip tlb)){J:Nat→Act→World→Prop}{R:Ending→World→Prop}(w0:World)(g bl:Nat)(last:S75)(f:Nat→Value)(A:Option Addr)(c:Nat)(wv:Value)(r:List S82)(ov:Value)(o:List Nd)(dp e p0 p1:Int)(W:World)
 (HP:zc (PB w0 g A c [] wv r.reverse ov o dp e p0 p1 W))(HB:zc (W.heap[bl]? =some (.cells #[.int .i64 last.f0,.string last.f1,.int .i64 last.f2,.int .i64 last.f3] 75)))(he:e=0)(hlast:zc (0≤last.f3∧last.f3+last.f1.size≤1000000))
 (hn:zc (∀(a':Act) (W':World),zJ g bl a'→zc (∃A' c' wv' ov',PB w0 g A' c' ([]) wv' (r).reverse ov' (o) dp 110 (zC ([]) last).1 (zC ([]) last).2 W')→zc (W'.heap[bl]? =some (.cells #[.int .i64 last.f0,.string last.f1,.int .i64 last.f2,.int .i64 last.f3] 75))→tlb.wp Tryz.prog (zn J (bodyPost Tryz.prog Tryz.f19 R)) a' W')):
 t.wp Tryz.prog (zn J (bodyPost Tryz.prog Tryz.f19 R)) (frm g bl f) W:=by
 unfold frm;injection(hr.symm.trans (rfl:findLabel bodyC 0=some (.seq .skip _)))with hr';injection hr' with _ hr';subst hr';clear hr;injection(hr1.symm.trans (rfl:findLabel bodyC 1=some (.seq .skip _)))with hr1';injection hr1' with _ hr1';have HR1:=zc.mk hr1';clear hr1 hr1';subst he;have HPK:=Lib.hid (zB w0 g A c [] wv r.reverse ov o dp 0 p0 p1 W HP.out);have HF:=zL w0 g A c [] wv r.reverse ov o dp 0 p0 p1 W HP.out rfl 110 last hlast.out;unfold tkV at HF;have HF:=Lib.hid HF;obtain⟨c0,c1,c2,c3,c4,c5,c6⟩:=HP.out.cells;have l0:W.cell? ⟨bl,0,none⟩=some (.int .i64 last.f0):=by rw[j6 HB.out];rfl
 have l1:W.cell? ⟨bl,1,none⟩=some (.string last.f1):=by rw[j6 HB.out];rfl
 have l2:W.cell? ⟨bl,2,none⟩=some (.int .i64 last.f2):=by rw[j6 HB.out];rfl
 have l3:W.cell? ⟨bl,3,none⟩=some (.int .i64 last.f3):=by rw[j6 HB.out];rfl
 go_wp2_with fail;refine HPK.out.mono ?_;rintro ex wb ⟨rfl,rfl⟩;go_wp2_with fail;refine HF.out.mono ?_;rintro ex wc ⟨rfl,hq,hg⟩;go_wp2_with fail;refine qy (by assumption) ?_
 have hh:=HR1.out;subst hh;exact hn.out _ _ ⟨rfl,rfl,rfl,rfl⟩ ⟨⟨A,c,wv,ov,hq⟩⟩ ⟨(HP.out.fr hg) _ _ HB.out⟩
theorem cONum {t:Code}(hr:findLabel bodyC 0=some (.seq .skip t)){tlb:Code}(hr1:findLabel bodyC 1=some (.seq .skip tlb)){J:Nat→Act→World→Prop}{R:Ending→World→Prop}(w0:World)(g bl:Nat)(last:S75)(f:Nat→Value)(A:Option Addr)(c:Nat)(tk:S75)(rest:List S75)(wv:Value)(r:List S82)(ov:Value)(o:List Nd)(dp e p0 p1:Int)(W:World)
 (HP:zc (PB w0 g A c (tk::rest) wv r.reverse ov o dp e p0 p1 W))(HB:zc (W.heap[bl]? =some (.cells #[.int .i64 last.f0,.string last.f1,.int .i64 last.f2,.int .i64 last.f3] 75)))(he:e=0)(hk:tk.f0=1)(z:Int)(d:Nat)(hN:zc (NumT tk.f1 z d))(hG:zc (Glob w0))(hsz:zc (o.length≤100000∧r.length≤100000))
 (hn:zc (∀(a':Act) (W':World),zJ g bl a'→zc (∃A' c' wv' ov',PB w0 g A' c' (rest) wv' (r).reverse ov' (o++[.num z d]) (dp) 0 p0 p1 W')→zc (W'.heap[bl]? =some (.cells #[.int .i64 last.f0,.string last.f1,.int .i64 last.f2,.int .i64 last.f3] 75))→tlb.wp Tryz.prog (zn J (bodyPost Tryz.prog Tryz.f19 R)) a' W')):
 t.wp Tryz.prog (zn J (bodyPost Tryz.prog Tryz.f19 R)) (frm g bl f) W:=by
 unfold frm;injection(hr.symm.trans (rfl:findLabel bodyC 0=some (.seq .skip _)))with hr';injection hr' with _ hr';subst hr';clear hr;injection(hr1.symm.trans (rfl:findLabel bodyC 1=some (.seq .skip _)))with hr1';injection hr1' with _ hr1';have HR1:=zc.mk hr1';clear hr1 hr1';subst he;have HPK:=zB w0 g A c (tk::rest) wv r.reverse ov o dp 0 p0 p1 W HP.out;have hpk:hdT (tk::rest)=tk.f1:=rfl;rw[hpk]at HPK;have HPK:=Lib.hid HPK;obtain⟨c0,c1,c2,c3,c4,c5,c6⟩:=HP.out.cells;obtain⟨tb,off,hA,q0,q1,q2,q3⟩:=HP.out.head;subst hA;rw[hk]at q0;have hl:¬((tk::rest).length:Int)=0:=by simp only[List.length_cons];omega
 have hl2:(0:Int)<((tk::rest).length:Int):=by simp only[List.length_cons];omega
 have hl3:(1:Int)≤((tk::rest).length:Int):=by omega
 have hlc:(tk::rest).length-1=rest.length:=rfl;have hcI:((tk::rest).length:Int)≤(c:Int):=by have:=HP.out.hc;omega
 generalize hn0:(tk::rest).length=n at*;have HNR:=hN.out.run W (hG.out.below HP.out.bl);unfold ratV at HNR;have HNR:=Lib.hid HNR;have HSH:∀W,RowKit.Hid (Calls Tryz.prog 41 #[.agg #[.string (intS z),.string (natS d)]] W fun ex w'=>ex= .returned (.bool true)∧Below W.heap.size W w'):=fun W=>Lib.hid (parse_short.calls (intS z) (natS d) true W hN.out.sh)
 clear hk;go_wp2_with fail;refine HPK.out.mono ?_;rintro ex wb ⟨rfl,rfl⟩;go_wp2_with fail;refine HNR.out.mono ?_;rintro ex wc ⟨rfl,hb⟩;have hb1:=(xb wc.heap.size wc).alloc (xc _) (.cells #[.string (intS z),.string (natS d)] 35);have HP2:=zc.mk ((HP.out.step hb).step hb1);have KX:=zc.mk (j7 wc (.cells #[.string (intS z),.string (natS d)] 35));have HB2:=zc.mk (Fr.below hb1 _ _ (Fr.below hb _ _ HB.out));clear HP HB hb hb1 HPK HNR c0 c1 c2 c3 c4 c5 c6 q0 q1 q2 q3;go_wp2_with fail;generalize wc.alloc (.cells #[.string (intS z),.string (natS d)] 35)=wd at*;refine(HSH wd).out.mono ?_;rintro ex we ⟨rfl,hb2⟩;have HP3:=zc.mk (HP2.out.step hb2);have KX3:=zc.mk (Fr0.below hb2 KX.out);have HB3:=zc.mk (Fr.below hb2 _ _ HB2.out);clear HP2 KX HB2 hb2 HSH;obtain⟨c0,c1,c2,c3,c4,c5,c6⟩:=HP3.out.cells;have f0:=HP3.out.frozen 0;have f2:=HP3.out.frozen 2;obtain⟨r0,r1,r2,r3,r4,r5,r6⟩:=(HP3.out.step ((xb _ _).drew)).cells;have m0:we.cell? ⟨wc.heap.size,0,none⟩=some (.string (intS z)):=by rw[j6 KX3.out];rfl
 have m1:we.cell? ⟨wc.heap.size,1,none⟩=some (.string (natS d)):=by rw[j6 KX3.out];rfl
 rw[hn0]at c0 r0;have hbytes:((o.map nd37).length+1)*72≤140737488355328:=by rw[List.length_map];have:=hsz.out;omega
 have HQD:=zc.mk (HP3.out.step ((xb _ _).drew));have hgl:=HP3.out.lt;go_wp2_with fail;go_region_law ((refine Kd.R_append_step k37 (w0:=w0) (W:=we.drew) w0.heap.size (by rfl) (.tmp 78) (.tmp 81) 24 37 (.agg #[.int .i64 0,.string ⟨#[]⟩,.string ⟨#[]⟩,.string ⟨#[]⟩,.int .i64 0,.int .i64 0]) 72 (by rfl) Tryz.underlying24 zS (by rfl) (by decide) (by omega) ov (o.map nd37) (nd37 (.num z d)) [.int .i64 0,.string (intS z),.string (natS d),.string ⟨#[]⟩,.int .i64 0,.int .i64 0] (fun k=>k≠g) (fun _=>False) (by rfl) (by rfl) (zE _ _ _ (nd37 (.num z d))) (fun _ hk=>hk.elim) (fun k hk=>by have:=HQD.out.lt;omega) HQD.out.ou HQD.out.bl HQD.out.bl.size hbytes ?_;intro v1 w1 hv1 hb1 hg1 ho1;have hl1:(o.map nd37++[nd37 (.num z d)]).length=o.length+1:=(by simp);obtain⟨Av,cv,hvv⟩:=Kd.R_slice hv1;rw[hl1]at hvv;subst hvv;have hk1:=(hg1.block g HQD.out.lt (fun hh=>HQD.out.ou.1 _ hh.symm rfl)).trans HQD.out.blk;rw[hn0]at hk1;have hz1:w1.frozen? ⟨g,2,none⟩=false:=Lib.frozen_of_heap hk1 2;have hz0:w1.frozen? ⟨g,0,none⟩=false:=Lib.frozen_of_heap hk1 0;have hc1:w1.cell? ⟨g,2,none⟩=some ov:=(by rw[j6 hk1];rfl);have hcc0:=(j6 hk1 (j:=0));have HK1:=zc.mk hk1;clear hk1))
 all_goals(
  have HQ6:=zc.mk (HQD.out.newO hb1 hg1 (out1:=o++[.num z d]) (by rw[List.map_append];exact hv1))
  have HQ7:zc (PB w0 g (if c=1 then some ⟨tb,off,none⟩else some ⟨tb,off+4,none⟩) (c-1) rest wv r.reverse (.slice Av (o.length+1) cv) (o++[.num z d]) dp 0 p0 p1 ((w1.setCell ⟨g,2,none⟩ (.slice Av (o.length+1) cv)).setCell ⟨g,0,none⟩ (.slice (if c=1 then some ⟨tb,off,none⟩else some ⟨tb,off+4,none⟩) rest.length (c-1)))):=⟨HQ6.out.tail⟩
  have HF7:zc (((w1.setCell ⟨g,2,none⟩ (.slice Av (o.length+1) cv)).setCell ⟨g,0,none⟩ (.slice (if c=1 then some ⟨tb,off,none⟩else some ⟨tb,off+4,none⟩) rest.length (c-1))).heap[bl]? =some (.cells #[.int .i64 last.f0,.string last.f1,.int .i64 last.f2,.int .i64 last.f3] 75)):=⟨(((Fr.below ((xb we.heap.size we).drew)).trans (HQD.out.frO hg1)).trans (Fr.grown (gst (gst (World.grownBy.refl w1 (some g)) 2 (.slice Av (o.length+1) cv)) 0 _) (fun k hk=>by injection hk with hk;subst hk;exact⟨_,_,HK1.out,by decide⟩))) _ _ HB3.out⟩
  clear HQ6 HK1 hv1 hb1 hg1 ho1;generalize (if c=1 then some (⟨tb,off,none⟩:Addr)else some ⟨tb,off+4,none⟩)=AA at*
  generalize (w1.setCell ⟨g,2,none⟩ (.slice Av (o.length+1) cv)).setCell ⟨g,0,none⟩ (.slice AA rest.length (c-1))=wz at*;go_wp2_with fail;refine qy (by assumption) ?_
  have hh:=HR1.out;subst hh;exact hn.out _ _ ⟨rfl,rfl,rfl,rfl⟩ ⟨⟨_,_,_,_,HQ7.out⟩⟩ ⟨HF7.out⟩)
theorem cONeg {t:Code}(hr:findLabel bodyC 0=some (.seq .skip t)){tlb:Code}(hr1:findLabel bodyC 1=some (.seq .skip tlb)){J:Nat→Act→World→Prop}{R:Ending→World→Prop}(w0:World)(g bl:Nat)(last:S75)(f:Nat→Value)(A:Option Addr)(c:Nat)(tk:S75)(rest:List S75)(wv:Value)(r:List S82)(ov:Value)(o:List Nd)(dp e p0 p1:Int)(W:World)
 (HP:zc (PB w0 g A c (tk::rest) wv r.reverse ov o dp e p0 p1 W))(HB:zc (W.heap[bl]? =some (.cells #[.int .i64 last.f0,.string last.f1,.int .i64 last.f2,.int .i64 last.f3] 75)))(he:e=0)(hk:tk.f0=2)(ht:tk.f1=⟨#[45]⟩)(hsz:zc (o.length≤100000∧r.length≤100000))
 (hn:zc (∀(a':Act) (W':World),zJ g bl a'→zc (∃A' c' wv' ov',PB w0 g A' c' (rest) wv' (⟨5,3,0⟩::r).reverse ov' (o) (dp) 0 p0 p1 W')→zc (W'.heap[bl]? =some (.cells #[.int .i64 last.f0,.string last.f1,.int .i64 last.f2,.int .i64 last.f3] 75))→J 0 a' W')):
 t.wp Tryz.prog (zn J (bodyPost Tryz.prog Tryz.f19 R)) (frm g bl f) W:=by
 unfold frm;injection(hr.symm.trans (rfl:findLabel bodyC 0=some (.seq .skip _)))with hr';injection hr' with _ hr';subst hr';clear hr;injection(hr1.symm.trans (rfl:findLabel bodyC 1=some (.seq .skip _)))with hr1';injection hr1' with _ hr1';have HR1:=zc.mk hr1';clear hr1 hr1';subst he;have HPK:=zB w0 g A c (tk::rest) wv r.reverse ov o dp 0 p0 p1 W HP.out;have hpk:hdT (tk::rest)=tk.f1:=rfl;rw[hpk]at HPK;have HPK:=Lib.hid HPK;have HS:=Lib.hid (signYes_at w0 g A c tk rest wv r.reverse ov o dp 0 p0 p1 W HP.out rfl hk ⟨#[45]⟩ ht);rw[ht]at HPK;obtain⟨c0,c1,c2,c3,c4,c5,c6⟩:=HP.out.cells;obtain⟨tb,off,hA,q0,q1,q2,q3⟩:=HP.out.head;subst hA;rw[hk]at q0;have hl:¬((tk::rest).length:Int)=0:=by simp only[List.length_cons];omega
 have hl2:(0:Int)<((tk::rest).length:Int):=by simp only[List.length_cons];omega
 have hl3:(1:Int)≤((tk::rest).length:Int):=by omega
 have hlc:(tk::rest).length-1=rest.length:=rfl;have hcI:((tk::rest).length:Int)≤(c:Int):=by have:=HP.out.hc;omega
 generalize hn0:(tk::rest).length=n at*;clear hk ht;go_wp2_with fail;refine HPK.out.mono ?_;rintro ex wb ⟨rfl,rfl⟩;go_wp2_with fail;refine HS.out.mono ?_;rintro ex wc ⟨rfl,hq,hg⟩;have HP2:=zc.mk hq;have HB2:=zc.mk ((HP.out.fr hg) _ _ HB.out);clear HP HB HPK HS c0 c1 c2 c3 c4 c5 c6 q0 q1 q2 q3 hq hg;generalize nxA c (some ⟨tb,off,none⟩)=A1 at*;generalize c-1=c1' at*;obtain⟨c0,c1,c2,c3,c4,c5,c6⟩:=HP2.out.cells;have hbytes:(r.reverse.length+1)*24≤140737488355328:=by rw[List.length_reverse];have:=hsz.out;omega
 go_wp2_with(at_builtin;refine Kd.R_append k82 (w0:=w0) w0.heap.size rfl (.tmp 99) (.tmp 101) 48 82 (.agg #[.int .i64 0,.int .i64 0,.int .i64 0]) 24 rfl Tryz.underlying48 info82 rfl (by decide) (by omega) wv r.reverse (⟨5,3,0⟩:S82) [.int .i64 5,.int .i64 3,.int .i64 0] (fun k=>k≠g) (fun _=>False) rfl rfl (k82_mkM _ _ _ (⟨5,3,0⟩:S82)) (fun _ hk=>hk.elim) ?aF ?aO ?aB ?aS ?aL ?_)
 case aF=>exact fun k hk=>by have:=HP2.out.lt;omega
 case aO=>exact HP2.out.wt
 case aB=>exact HP2.out.bl
 case aS=>exact HP2.out.bl.size
 case aL=>exact hbytes
 intro v1 w1 hv1 hb1 hg1 ho1;have hl1:(r.reverse++[(⟨5,3,0⟩:S82)]).length=r.reverse.length+1:=(by simp)
 have HQ6:=zc.mk (HP2.out.newW hb1 hg1 (wait1:=r.reverse++[(⟨5,3,0⟩:S82)]) hv1);have hk1:=(hg1.block g HP2.out.lt (fun hh=>HP2.out.wt.1 _ hh.symm rfl)).trans HP2.out.blk
 have hz1:w1.frozen? ⟨g,1,none⟩=false:=Lib.frozen_of_heap hk1 1;have hc1:w1.cell? ⟨g,1,none⟩=some wv:=(by rw[j6 hk1];rfl)
 have HF6:=zc.mk ((HP2.out.frW hg1).trans (Fr.grown (gst (World.grownBy.refl w1 (some g)) 1 v1) (fun k hk=>by injection hk with hk;subst hk;exact⟨_,_,hk1,by decide⟩)))
 have HV1:zc (∃B cap,v1= .slice B (r.reverse.length+1) cap):=⟨by obtain⟨B,cap,h⟩:=Kd.R_slice hv1;rw[hl1]at h;exact⟨B,cap,h⟩⟩
 clear hk1 hv1 hb1 hg1 ho1;obtain⟨Av,cv,hvv⟩:=HV1.out;subst hvv;clear HV1;simp only[List.length_reverse]at HQ6 HF6;have e5:r.reverse++[(⟨5,3,0⟩:S82)]=(⟨5,3,0⟩::r).reverse:=by rw[List.reverse_cons]
 rw[e5]at HQ6;go_wp2_with fail;go_step3
 show J 0 _ _
 exact hn.out _ _ ⟨rfl,rfl,rfl,rfl⟩ ⟨⟨_,_,_,_,HQ6.out⟩⟩ ⟨HF6.out _ _ HB2.out⟩
end Go.Proofs.YtjopepfemhckjaaGreatDoor.NW
end
