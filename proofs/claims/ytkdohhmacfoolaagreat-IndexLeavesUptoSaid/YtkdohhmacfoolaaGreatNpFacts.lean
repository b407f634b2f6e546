/- Facts. No condition. -/
import Derived.Test.YtkdohhmacfoolaaGreatRows
import Derived.Test.YtkdohhmacfoolaaGreatNpAmB
set_option linter.unusedSimpArgs false
set_option linter.unusedVariables false
namespace Go.Proofs.YtkdohhmacfoolaaGreat
open Go.Proofs.Tryz Go Go.AM
theorem sz0:bD prog 0=some 1:=by kernel_rfl
theorem sz1:bD prog 1=some 1:=by kernel_rfl
theorem tb1:Tryz.t1.bytes=8:=rfl
theorem sz2:bD prog 2=some 1:=by kernel_rfl
theorem sz3:bD prog 3=some 1:=by kernel_rfl
theorem in3:Tryz.prog.info? 3=some Tryz.t3:=by kernel_rfl
theorem ts3:Tryz.t3.size=1:=rfl
theorem tb3:Tryz.t3.bytes=8:=rfl
theorem tz3:Tryz.t3.zero=some (Value.int IntKind.i64 0):=rfl
theorem zc3:zeroCells? prog 3=some [.v (Value.int IntKind.i64 0)]:=by kernel_rfl
theorem sz4:bD prog 4=some 1:=by kernel_rfl
theorem in4:Tryz.prog.info? 4=some Tryz.t4:=by kernel_rfl
theorem ts4:Tryz.t4.size=1:=rfl
theorem tb4:Tryz.t4.bytes=1:=rfl
theorem tz4:Tryz.t4.zero=some (Value.bool false):=rfl
theorem zc4:zeroCells? prog 4=some [.v (Value.bool false)]:=by kernel_rfl
theorem sz5:bD prog 5=some 1:=by kernel_rfl
theorem in5:Tryz.prog.info? 5=some Tryz.t5:=by kernel_rfl
theorem ts5:Tryz.t5.size=1:=rfl
theorem tb5:Tryz.t5.bytes=1:=rfl
theorem zc5:zeroCells? prog 5=some [.v (Value.int IntKind.u8 0)]:=by kernel_rfl
theorem sz6:bD prog 6=some 1:=by kernel_rfl
theorem sz7:bD prog 7=some 4:=by kernel_rfl
theorem sz8:bD prog 8=some 4:=by kernel_rfl
theorem sz9:bD prog 9=some 1:=by kernel_rfl
theorem cEa:bD prog 10=some 1:=by kernel_rfl
theorem cEb:bD prog 11=some 1:=by kernel_rfl
theorem cEc:bD prog 12=some 1:=by kernel_rfl
theorem cEd:bD prog 13=some 2:=by kernel_rfl
theorem cEe:bD prog 14=some 2:=by kernel_rfl
theorem cEf:bD prog 15=some 1:=by kernel_rfl
theorem cEg:bD prog 16=some 1:=by kernel_rfl
theorem cEh:bD prog 17=some 1:=by kernel_rfl
theorem cEi:bD prog 18=some 1:=by kernel_rfl
theorem cEj:bD prog 19=some 1:=by kernel_rfl
theorem cEk:bD prog 20=some 1:=by kernel_rfl
theorem cEl:bD prog 21=some 1:=by kernel_rfl
theorem cEm:bD prog 22=some 3:=by kernel_rfl
theorem bV1:bD prog 23=some 3:=by kernel_rfl
theorem cD0:zeroCells? prog 23=some [.v (Value.int IntKind.i64 0),.v (Value.int IntKind.i64 0),.v (Value.int IntKind.i64 0)]:=by kernel_rfl
theorem cEn:bD prog 24=some 1:=by kernel_rfl
theorem bWt:Tryz.prog.info? 24=some Tryz.t24:=by kernel_rfl
theorem cGm:Tryz.t24.size=1:=rfl
theorem cCk:Tryz.t24.bytes=24:=rfl
theorem cCr:Tryz.t24.zero=some (Value.slice none 0 0):=rfl
theorem cEo:bD prog 25=some 1:=by kernel_rfl
theorem cEp:bD prog 26=some 1:=by kernel_rfl
theorem cBz:bD prog 27=some 1:=by kernel_rfl
theorem bS1:bD prog 28=some 1:=by kernel_rfl
theorem bVb:zeroCells? prog 28=some [.v (Value.slice none 0 0)]:=by kernel_rfl
theorem cEq:bD prog 29=some 5:=by kernel_rfl
theorem cEr:bD prog 30=some 5:=by kernel_rfl
theorem cGr:zeroCells? prog 30=some [.v (Value.int IntKind.i64 0),.v (Value.int IntKind.i64 0),.v (Value.int IntKind.i64 0),.v (Value.slice none 0 0),.v (Value.slice none 0 0)]:=by kernel_rfl
theorem cCi:bD prog 31=some 1:=by kernel_rfl
theorem cEs:bD prog 32=some 6:=by kernel_rfl
theorem bKn:bD prog 33=some 6:=by kernel_rfl
theorem bVc:zeroCells? prog 33=some [.v (Value.int IntKind.i64 0),.v (Value.int IntKind.i64 0),.v (Value.int IntKind.i64 0),.v (Value.slice none 0 0),.v (Value.slice none 0 0),.v (Value.slice none 0 0)]:=by kernel_rfl
theorem cEt:bD prog 34=some 2:=by kernel_rfl
theorem cEu:bD prog 35=some 2:=by kernel_rfl
theorem cGs:zeroCells? prog 35=some [.v (Value.slice none 0 0),.v (Value.int IntKind.i64 0)]:=by kernel_rfl
theorem cEv:bD prog 36=some 1:=by kernel_rfl
theorem aZu:Tryz.prog.info? 36=some Tryz.t36:=by kernel_rfl
theorem cGn:Tryz.t36.size=1:=rfl
theorem cCl:Tryz.t36.bytes=8:=rfl
theorem cCs:Tryz.t36.zero=some (Value.int IntKind.i64 0):=rfl
theorem cEw:bD prog 37=some 1:=by kernel_rfl
theorem cEx:bD prog 38=some 1:=by kernel_rfl
theorem cEy:bD prog 39=some 1:=by kernel_rfl
theorem cEz:bD prog 40=some 1:=by kernel_rfl
theorem cF0:bD prog 41=some 3:=by kernel_rfl
theorem cF1:bD prog 42=some 3:=by kernel_rfl
theorem fD:bD prog 43=some 1:=by kernel_rfl
theorem bTz:Tryz.prog.info? 43=some Tryz.t43:=by kernel_rfl
theorem bV4:Tryz.t43.size=1:=rfl
theorem bKo:Tryz.t43.bytes=8:=rfl
theorem bV5:Tryz.t43.zero=some (Value.int IntKind.u64 0):=rfl
theorem bKs:zeroCells? prog 43=some [.v (Value.int IntKind.u64 0)]:=by kernel_rfl
theorem cF2:bD prog 44=some 4:=by kernel_rfl
theorem cF3:bD prog 45=some 4:=by kernel_rfl
theorem cGt:zeroCells? prog 45=some [.v (Value.int IntKind.i64 0),.v (Value.int IntKind.u64 0),.v (Value.int IntKind.u64 0),.v (Value.string { data:= #[] })]:=by kernel_rfl
theorem cF4:bD prog 46=some 1:=by kernel_rfl
theorem cF5:bD prog 47=some 1:=by kernel_rfl
theorem cF6:bD prog 48=some 1:=by kernel_rfl
theorem cF7:bD prog 49=some 1:=by kernel_rfl
theorem cF8:bD prog 50=some 1:=by kernel_rfl
theorem cF9:bD prog 51=some 1:=by kernel_rfl
theorem cFa:bD prog 52=some 1:=by kernel_rfl
theorem cFb:bD prog 53=some 1:=by kernel_rfl
theorem cFc:bD prog 54=some 1:=by kernel_rfl
theorem cFd:bD prog 55=some 6:=by kernel_rfl
theorem cFe:bD prog 56=some 6:=by kernel_rfl
theorem cGu:zeroCells? prog 56=some [.v (Value.int IntKind.i64 0),.v (Value.int IntKind.i64 0),.v (Value.int IntKind.i64 0),.v (Value.slice none 0 0),.v (Value.slice none 0 0),.v (Value.slice none 0 0)]:=by kernel_rfl
theorem cFf:bD prog 57=some 1:=by kernel_rfl
theorem cFg:bD prog 58=some 1:=by kernel_rfl
theorem cFh:bD prog 59=some 1:=by kernel_rfl
theorem cFi:bD prog 60=some 2:=by kernel_rfl
theorem cFj:bD prog 61=some 1:=by kernel_rfl
theorem cFk:bD prog 62=some 1:=by kernel_rfl
theorem cFl:bD prog 63=some 1:=by kernel_rfl
theorem cFm:bD prog 64=some 1:=by kernel_rfl
theorem cFn:bD prog 65=some 1:=by kernel_rfl
theorem cFo:bD prog 66=some 1:=by kernel_rfl
theorem cFp:bD prog 67=some 1:=by kernel_rfl
theorem cFq:bD prog 68=some 1:=by kernel_rfl
theorem fR:bD prog 69=some 2:=by kernel_rfl
theorem cDb:Tryz.prog.info? 69=some Tryz.t69:=by kernel_rfl
theorem cGo:Tryz.t69.size=2:=rfl
theorem cCm:Tryz.t69.bytes=16:=rfl
theorem cGp:Tryz.t69.zero=some (Value.agg #[Value.int IntKind.u64 0,Value.int IntKind.u64 0]):=rfl
theorem cGv:zeroCells? prog 69=some [.v (Value.int IntKind.u64 0),.v (Value.int IntKind.u64 0)]:=by kernel_rfl
theorem cFr:bD prog 70=some 1:=by kernel_rfl
theorem cFs:bD prog 71=some 1:=by kernel_rfl
theorem cFt:bD prog 72=some 1:=by kernel_rfl
theorem cFu:bD prog 73=some 1:=by kernel_rfl
theorem cFv:bD prog 74=some 1:=by kernel_rfl
theorem cFw:bD prog 75=some 1:=by kernel_rfl
theorem cFx:bD prog 76=some 1:=by kernel_rfl
theorem cFy:bD prog 77=some 1:=by kernel_rfl
theorem cFz:bD prog 78=some 1:=by kernel_rfl
theorem cG0:bD prog 79=some 1:=by kernel_rfl
theorem cG1:bD prog 80=some 1:=by kernel_rfl
theorem cG2:bD prog 81=some 1:=by kernel_rfl
theorem cG3:bD prog 82=some 1:=by kernel_rfl
theorem cG4:bD prog 83=some 1:=by kernel_rfl
theorem cG5:bD prog 84=some 1:=by kernel_rfl
theorem cG6:bD prog 85=some 1:=by kernel_rfl
theorem cG7:bD prog 86=some 1:=by kernel_rfl
theorem cG8:bD prog 87=some 1:=by kernel_rfl
theorem cG9:bD prog 88=some 1:=by kernel_rfl
theorem cGa:bD prog 89=some 1:=by kernel_rfl
theorem cGb:bD prog 90=some 1:=by kernel_rfl
theorem cGc:bD prog 91=some 1:=by kernel_rfl
theorem cGd:bD prog 92=some 1:=by kernel_rfl
theorem cGe:bD prog 93=some 1:=by kernel_rfl
theorem cGf:bD prog 94=some 1:=by kernel_rfl
theorem cGg:bD prog 95=some 1:=by kernel_rfl
theorem cGh:bD prog 96=some 1:=by kernel_rfl
theorem cGi:bD prog 97=some 1:=by kernel_rfl
theorem cGj:bD prog 98=some 1:=by kernel_rfl
theorem cGk:bD prog 99=some 1:=by kernel_rfl
theorem bXq:bD prog 100=some 1:=by kernel_rfl
theorem bXr:bD prog 101=some 3:=by kernel_rfl
theorem aG3:bD prog 102=some 3:=by kernel_rfl
theorem aZt:Tryz.prog.info? 102=some Tryz.t102:=by kernel_rfl
theorem bBk:Tryz.t102.size=3:=rfl
theorem aLh:Tryz.t102.bytes=24:=rfl
theorem bBl:Tryz.t102.zero=some (Value.agg #[Value.int IntKind.i64 0,Value.int IntKind.i64 0,Value.int IntKind.i64 0]):=rfl
theorem aO2:zeroCells? prog 102=some [.v (Value.int IntKind.i64 0),.v (Value.int IntKind.i64 0),.v (Value.int IntKind.i64 0)]:=by kernel_rfl
theorem bXs:bD prog 103=some 2:=by kernel_rfl
theorem bBb:bD prog 104=some 2:=by kernel_rfl
theorem bGj:Tryz.prog.info? 104=some Tryz.t104:=by kernel_rfl
theorem bHd:Tryz.t104.size=2:=rfl
theorem aQg:Tryz.t104.bytes=16:=rfl
theorem bHf:Tryz.t104.zero=some (Value.agg #[Value.bool false,Value.int IntKind.u64 0]):=rfl
theorem bBs:zeroCells? prog 104=some [.v (Value.bool false),.v (Value.int IntKind.u64 0)]:=by kernel_rfl
theorem bXt:bD prog 105=some 1:=by kernel_rfl
theorem bXu:bD prog 106=some 1:=by kernel_rfl
theorem bXv:bD prog 107=some 1:=by kernel_rfl
theorem bXw:bD prog 108=some 1:=by kernel_rfl
theorem bXx:bD prog 109=some 1:=by kernel_rfl
theorem bXy:bD prog 110=some 1:=by kernel_rfl
theorem bXz:bD prog 111=some 1:=by kernel_rfl
theorem aQe:bD prog 112=some 1:=by kernel_rfl
theorem bWr:Tryz.prog.info? 112=some Tryz.t112:=by kernel_rfl
theorem cCo:Tryz.t112.size=1:=rfl
theorem cCj:Tryz.t112.bytes=24:=rfl
theorem cCw:zeroCells? prog 112=some [.v (Value.slice none 0 0)]:=by kernel_rfl
theorem bY0:bD prog 113=some 1:=by kernel_rfl
theorem bY1:bD prog 114=some 1:=by kernel_rfl
theorem bY2:bD prog 115=some 1:=by kernel_rfl
theorem bY3:bD prog 116=some 1:=by kernel_rfl
theorem bY4:bD prog 117=some 1:=by kernel_rfl
theorem bY5:bD prog 118=some 1:=by kernel_rfl
theorem bY6:bD prog 119=some 2:=by kernel_rfl
theorem bBc:bD prog 120=some 2:=by kernel_rfl
theorem bGk:Tryz.prog.info? 120=some Tryz.t120:=by kernel_rfl
theorem bHe:Tryz.t120.size=2:=rfl
theorem aQh:Tryz.t120.bytes=16:=rfl
theorem bHg:Tryz.t120.zero=some (Value.agg #[Value.int IntKind.u64 0,Value.int IntKind.u64 0]):=rfl
theorem bBt:zeroCells? prog 120=some [.v (Value.int IntKind.u64 0),.v (Value.int IntKind.u64 0)]:=by kernel_rfl
theorem bY7:bD prog 121=some 1:=by kernel_rfl
theorem bY8:bD prog 122=some 1:=by kernel_rfl
theorem bY9:bD prog 123=some 1:=by kernel_rfl
theorem bYa:bD prog 124=some 1:=by kernel_rfl
theorem bYb:bD prog 125=some 1:=by kernel_rfl
theorem bYc:bD prog 126=some 1:=by kernel_rfl
theorem bYd:bD prog 127=some 1:=by kernel_rfl
theorem bYe:bD prog 128=some 1:=by kernel_rfl
theorem bYf:bD prog 129=some 1:=by kernel_rfl
theorem bYg:bD prog 130=some 1:=by kernel_rfl
theorem bT7:zeroCells? prog 130=some [.v (Value.pointer none)]:=by kernel_rfl
theorem bYh:bD prog 131=some 1:=by kernel_rfl
theorem bYi:bD prog 132=some 1:=by kernel_rfl
theorem bYj:bD prog 133=some 1:=by kernel_rfl
theorem bYk:bD prog 134=some 1:=by kernel_rfl
theorem bYl:bD prog 135=some 1:=by kernel_rfl
theorem bYm:bD prog 136=some 1:=by kernel_rfl
theorem bYn:bD prog 137=some 1:=by kernel_rfl
theorem bYo:bD prog 138=some 1:=by kernel_rfl
theorem bYp:bD prog 139=some 1:=by kernel_rfl
theorem bYq:bD prog 140=some 1:=by kernel_rfl
theorem bYr:bD prog 141=some 1:=by kernel_rfl
theorem bYs:bD prog 142=some 1:=by kernel_rfl
theorem bYt:bD prog 143=some 1:=by kernel_rfl
theorem bYu:bD prog 144=some 1:=by kernel_rfl
theorem bYv:bD prog 145=some 1:=by kernel_rfl
theorem bYw:bD prog 146=some 1:=by kernel_rfl
theorem bYx:bD prog 147=some 1:=by kernel_rfl
theorem bYy:bD prog 148=some 1:=by kernel_rfl
theorem bYz:bD prog 149=some 1:=by kernel_rfl
theorem bZ0:bD prog 150=some 1:=by kernel_rfl
theorem bZ1:bD prog 151=some 2:=by kernel_rfl
theorem bWs:Tryz.prog.info? 151=some Tryz.t151:=by kernel_rfl
theorem cCp:Tryz.t151.size=2:=rfl
theorem bT2:Tryz.t151.bytes=16:=rfl
theorem cCq:Tryz.t151.zero=some (Value.agg #[Value.bool false,Value.int IntKind.u64 0]):=rfl
theorem cCx:zeroCells? prog 151=some [.v (Value.bool false),.v (Value.int IntKind.u64 0)]:=by kernel_rfl
theorem bZ2:bD prog 152=some 1:=by kernel_rfl
theorem bZ3:bD prog 153=some 1:=by kernel_rfl
theorem bZ4:bD prog 154=some 1:=by kernel_rfl
theorem bZ5:bD prog 155=some 1:=by kernel_rfl
theorem bZ6:bD prog 156=some 1:=by kernel_rfl
theorem bZ7:bD prog 157=some 2:=by kernel_rfl
theorem bH9:bD prog 158=some 2:=by kernel_rfl
theorem cCy:zeroCells? prog 158=some [.v (Value.int IntKind.u64 0),.v (Value.int IntKind.i64 0)]:=by kernel_rfl
theorem bZ8:bD prog 159=some 1:=by kernel_rfl
theorem bZ9:bD prog 160=some 1:=by kernel_rfl
theorem bZa:bD prog 161=some 1:=by kernel_rfl
theorem bZb:bD prog 162=some 1:=by kernel_rfl
theorem bZc:bD prog 163=some 1:=by kernel_rfl
theorem bZd:bD prog 164=some 1:=by kernel_rfl
theorem bZe:bD prog 165=some 1:=by kernel_rfl
theorem bZf:bD prog 166=some 1:=by kernel_rfl
theorem bZg:bD prog 167=some 1:=by kernel_rfl
theorem bZh:bD prog 168=some 1:=by kernel_rfl
theorem bZi:bD prog 169=some 1:=by kernel_rfl
theorem bZj:bD prog 170=some 1:=by kernel_rfl
theorem bZk:bD prog 171=some 1:=by kernel_rfl
theorem bZl:bD prog 172=some 1:=by kernel_rfl
theorem bZm:bD prog 173=some 1:=by kernel_rfl
theorem bZn:bD prog 174=some 1:=by kernel_rfl
theorem bZo:bD prog 175=some 1:=by kernel_rfl
theorem bZp:bD prog 176=some 1:=by kernel_rfl
theorem bZq:bD prog 177=some 1:=by kernel_rfl
theorem bZr:bD prog 178=some 1:=by kernel_rfl
theorem bZs:bD prog 179=some 1:=by kernel_rfl
theorem bZt:bD prog 180=some 1:=by kernel_rfl
theorem bZu:bD prog 181=some 1:=by kernel_rfl
theorem bZv:bD prog 182=some 1:=by kernel_rfl
theorem bZw:bD prog 183=some 1:=by kernel_rfl
theorem bZx:bD prog 184=some 1:=by kernel_rfl
theorem bZy:bD prog 185=some 1:=by kernel_rfl
theorem bZz:bD prog 186=some 1:=by kernel_rfl
theorem cA0:bD prog 187=some 1:=by kernel_rfl
theorem cA1:bD prog 188=some 1:=by kernel_rfl
theorem cA2:bD prog 189=some 1:=by kernel_rfl
theorem cA3:bD prog 190=some 1:=by kernel_rfl
theorem cA4:bD prog 191=some 6:=by kernel_rfl
theorem cA5:bD prog 192=some 6:=by kernel_rfl
theorem cCz:zeroCells? prog 192=some [.v (Value.pointer none),.v (Value.pointer none),.v (Value.int IntKind.u64 0),.v (Value.int IntKind.i64 0),.v (Value.int IntKind.i64 0),.v (Value.int IntKind.i64 0)]:=by kernel_rfl
theorem cA6:bD prog 193=some 1:=by kernel_rfl
theorem cA7:bD prog 194=some 1:=by kernel_rfl
theorem cA8:bD prog 195=some 1:=by kernel_rfl
theorem cA9:bD prog 196=some 1:=by kernel_rfl
theorem cAa:bD prog 197=some 1:=by kernel_rfl
theorem cAb:bD prog 198=some 1:=by kernel_rfl
theorem cAc:bD prog 199=some 1:=by kernel_rfl
theorem cAd:bD prog 200=some 1:=by kernel_rfl
theorem cAe:bD prog 201=some 1:=by kernel_rfl
theorem cAf:bD prog 202=some 1:=by kernel_rfl
theorem cAg:bD prog 203=some 1:=by kernel_rfl
theorem cAh:bD prog 204=some 1:=by kernel_rfl
theorem cAi:bD prog 205=some 1:=by kernel_rfl
theorem cAj:bD prog 206=some 1:=by kernel_rfl
theorem cAk:bD prog 207=some 1:=by kernel_rfl
theorem cAl:bD prog 208=some 1:=by kernel_rfl
theorem cAm:bD prog 209=some 1:=by kernel_rfl
theorem cAn:bD prog 210=some 1:=by kernel_rfl
theorem cAo:bD prog 211=some 1:=by kernel_rfl
theorem cAp:bD prog 212=some 1:=by kernel_rfl
theorem cAq:bD prog 213=some 1:=by kernel_rfl
theorem cAr:bD prog 214=some 1:=by kernel_rfl
theorem cAs:bD prog 215=some 1:=by kernel_rfl
theorem cAt:bD prog 216=some 1:=by kernel_rfl
theorem cAu:bD prog 217=some 1:=by kernel_rfl
theorem cAv:bD prog 218=some 1:=by kernel_rfl
theorem cAw:bD prog 219=some 1:=by kernel_rfl
theorem cAx:bD prog 220=some 1:=by kernel_rfl
theorem cAy:bD prog 221=some 1:=by kernel_rfl
theorem cAz:bD prog 222=some 1:=by kernel_rfl
theorem cB0:bD prog 223=some 1:=by kernel_rfl
theorem cB1:bD prog 224=some 1:=by kernel_rfl
theorem cB2:bD prog 225=some 1:=by kernel_rfl
theorem cB3:bD prog 226=some 1:=by kernel_rfl
theorem cB4:bD prog 227=some 1:=by kernel_rfl
theorem cB5:bD prog 228=some 1:=by kernel_rfl
theorem cB6:bD prog 229=some 1:=by kernel_rfl
theorem cB7:bD prog 230=some 1:=by kernel_rfl
theorem aVu:bD prog 231=some 1:=by kernel_rfl
theorem bT8:zeroCells? prog 231=some [.v (Value.int IntKind.u64 0)]:=by kernel_rfl
theorem cB8:bD prog 233=some 1:=by kernel_rfl
theorem cB9:bD prog 235=some 1:=by kernel_rfl
theorem cBa:bD prog 236=some 1:=by kernel_rfl
theorem cBb:bD prog 237=some 1:=by kernel_rfl
theorem cBc:bD prog 238=some 1:=by kernel_rfl
theorem cBd:bD prog 241=some 1:=by kernel_rfl
theorem cBe:bD prog 242=some 3:=by kernel_rfl
theorem cBf:bD prog 243=some 3:=by kernel_rfl
theorem cD1:zeroCells? prog 243=some [.v (Value.int IntKind.i64 0),.v (Value.int IntKind.i64 0),.v (Value.slice none 0 0)]:=by kernel_rfl
theorem cBg:bD prog 244=some 1:=by kernel_rfl
theorem cBh:bD prog 245=some 1:=by kernel_rfl
theorem cBi:bD prog 246=some 1:=by kernel_rfl
theorem cBj:bD prog 247=some 1:=by kernel_rfl
theorem cBk:bD prog 248=some 1:=by kernel_rfl
theorem cBl:bD prog 249=some 1:=by kernel_rfl
theorem cBm:bD prog 250=some 1:=by kernel_rfl
theorem cBn:bD prog 251=some 1:=by kernel_rfl
theorem cBo:bD prog 253=some 1:=by kernel_rfl
theorem cBp:bD prog 254=some 1:=by kernel_rfl
theorem cBq:bD prog 256=some 1:=by kernel_rfl
theorem cBr:bD prog 257=some 1:=by kernel_rfl
theorem cBs:bD prog 261=some 1:=by kernel_rfl
theorem cBt:bD prog 263=some 1:=by kernel_rfl
theorem cBu:bD prog 264=some 1:=by kernel_rfl
theorem cBv:bD prog 265=some 1:=by kernel_rfl
theorem cBw:bD prog 266=some 1:=by kernel_rfl
theorem cBx:bD prog 267=some 1:=by kernel_rfl
theorem cBy:bD prog 269=some 1:=by kernel_rfl
theorem cC0:bD prog 270=some 1:=by kernel_rfl
theorem cC1:bD prog 271=some 1:=by kernel_rfl
theorem cC2:bD prog 272=some 1:=by kernel_rfl
theorem cC3:bD prog 273=some 4:=by kernel_rfl
theorem cC4:bD prog 274=some 4:=by kernel_rfl
theorem cC5:bD prog 275=some 0:=by kernel_rfl
theorem cC6:bD prog 276=some 0:=by kernel_rfl
theorem cC7:bD prog 277=some 0:=by kernel_rfl
theorem cC8:bD prog 278=some 1:=by kernel_rfl
theorem cC9:bD prog 279=some 1:=by kernel_rfl
theorem cCa:bD prog 280=some 1:=by kernel_rfl
theorem cCb:bD prog 281=some 1:=by kernel_rfl
theorem cCc:bD prog 282=some 1:=by kernel_rfl
theorem cCd:bD prog 283=some 1:=by kernel_rfl
theorem cCe:bD prog 284=some 1:=by kernel_rfl
theorem cCf:bD prog 285=some 11:=by kernel_rfl
theorem cCg:bD prog 286=some 11:=by kernel_rfl
theorem cCh:bD prog 287=some 1:=by kernel_rfl
abbrev FbP(k:Nat):Prop:=(Program.funcs prog)[k]?.any (fun fn=>fn.body.isSome&&fn.name != "runtime.NumGoroutine")=true
theorem fbT{k:Nat}{f}(h:(Program.funcs prog)[k]? =some f)(h':(f.body.isSome&&f.name != "runtime.NumGoroutine")=true):FbP k:=by
 show (Program.funcs prog)[k]?.any _=true;rw [h];exact h'
theorem cD9:FbP 33:=fbT func33 (by kernel_rfl)
theorem cDa:FbP 38:=fbT func38 (by kernel_rfl)
theorem bVx:FbP 100:=fbT func100 (by kernel_rfl)
theorem bSd:FbP 103:=fbT func103 (by kernel_rfl)
theorem bVy:FbP 104:=fbT func104 (by kernel_rfl)
theorem bVz:FbP 105:=fbT func105 (by kernel_rfl)
theorem bW0:FbP 106:=fbT func106 (by kernel_rfl)
theorem aL2:FbP 110:=fbT func110 (by kernel_rfl)
theorem bW1:FbP 112:=fbT func112 (by kernel_rfl)
theorem bW2:FbP 113:=fbT func113 (by kernel_rfl)
theorem bSe:FbP 114:=fbT func114 (by kernel_rfl)
theorem bSf:FbP 125:=fbT func125 (by kernel_rfl)
theorem bM9:FbP 127:=fbT func127 (by kernel_rfl)
theorem bSg:FbP 128:=fbT func128 (by kernel_rfl)
theorem bW3:FbP 129:=fbT func129 (by kernel_rfl)
theorem bW4:FbP 130:=fbT func130 (by kernel_rfl)
theorem bW5:FbP 131:=fbT func131 (by kernel_rfl)
theorem bSh:FbP 132:=fbT func132 (by kernel_rfl)
theorem bMa:FbP 133:=fbT func133 (by kernel_rfl)
theorem bSi:FbP 134:=fbT func134 (by kernel_rfl)
theorem bMb:FbP 136:=fbT func136 (by kernel_rfl)
theorem aMt:FbP 142:=fbT func142 (by kernel_rfl)
theorem bGe:FbP 143:=fbT func143 (by kernel_rfl)
theorem bSj:FbP 144:=fbT func144 (by kernel_rfl)
theorem bW6:FbP 145:=fbT func145 (by kernel_rfl)
theorem bW7:FbP 146:=fbT func146 (by kernel_rfl)
theorem bW8:FbP 147:=fbT func147 (by kernel_rfl)
theorem bW9:FbP 148:=fbT func148 (by kernel_rfl)
theorem bWa:FbP 149:=fbT func149 (by kernel_rfl)
theorem bWb:FbP 150:=fbT func150 (by kernel_rfl)
theorem aFp:FbP 151:=fbT func151 (by kernel_rfl)
theorem bWc:FbP 152:=fbT func152 (by kernel_rfl)
theorem bWd:FbP 153:=fbT func153 (by kernel_rfl)
theorem bWe:FbP 156:=fbT func156 (by kernel_rfl)
theorem bWf:FbP 157:=fbT func157 (by kernel_rfl)
theorem bWg:FbP 158:=fbT func158 (by kernel_rfl)
theorem bWh:FbP 159:=fbT func159 (by kernel_rfl)
theorem bWi:FbP 160:=fbT func160 (by kernel_rfl)
theorem bWj:FbP 161:=fbT func161 (by kernel_rfl)
theorem bWk:FbP 162:=fbT func162 (by kernel_rfl)
theorem bWl:FbP 163:=fbT func163 (by kernel_rfl)
theorem bWm:FbP 167:=fbT func167 (by kernel_rfl)
theorem bGf:FbP 173:=fbT func173 (by kernel_rfl)
theorem bSk:FbP 174:=fbT func174 (by kernel_rfl)
theorem bSl:FbP 175:=fbT func175 (by kernel_rfl)
theorem bSm:FbP 176:=fbT func176 (by kernel_rfl)
theorem bSn:FbP 177:=fbT func177 (by kernel_rfl)
theorem bMc:FbP 178:=fbT func178 (by kernel_rfl)
theorem bSo:FbP 179:=fbT func179 (by kernel_rfl)
theorem bSp:FbP 180:=fbT func180 (by kernel_rfl)
theorem bMd:FbP 181:=fbT func181 (by kernel_rfl)
theorem bSq:FbP 182:=fbT func182 (by kernel_rfl)
theorem bWn:FbP 192:=fbT func192 (by kernel_rfl)
theorem bWo:FbP 193:=fbT func193 (by kernel_rfl)
theorem bMe:FbP 194:=fbT func194 (by kernel_rfl)
theorem bMf:FbP 195:=fbT func195 (by kernel_rfl)
theorem bWp:FbP 209:=fbT func209 (by kernel_rfl)
theorem mix:Tryz.prog.follows .mixedOrders=true:=by kernel_rfl
@[go_sem] theorem mi3(H:aM)(ρ:Operand→AV)(x:Operand):cI prog H ρ (.makeInterface 3 x)=some (.ifc 3 (ρ x)):=by simp only [cI,underlying3]
@[go_sem] theorem mi4(H:aM)(ρ:Operand→AV)(x:Operand):cI prog H ρ (.makeInterface 4 x)=some (.ifc 4 (ρ x)):=by simp only [cI,underlying4]
@[go_sem] theorem ln9(s:ByteArray):dG prog .len [9] [.v (.string s)]=some (.v (.int .i64 s.size)):=aBw underlying9
@[go_sem] theorem mi9(H:aM)(ρ:Operand→AV)(x:Operand):cI prog H ρ (.makeInterface 9 x)=some (.ifc 9 (ρ x)):=by simp only [cI,underlying9]
@[go_sem] theorem cDd(s:ByteArray):dG prog .len [10] [.v (.string s)]=some (.v (.int .i64 s.size)):=aBw underlying10
@[go_sem] theorem cDe(s:ByteArray):dG prog .len [11] [.v (.string s)]=some (.v (.int .i64 s.size)):=aBw underlying11
theorem cDf(xs:List AV)(n:Nat)(f:Bool):dG prog .len [24] [.sl xs n f]=some (.v (.int .i64 n)):=kK underlying24
theorem cDm(j o n:Nat):dG prog .len [24] [.own j o n]=some (.v (.int .i64 n)):=iZ underlying24
theorem cDu(n c:Nat):dG prog .len [24] [.v (.slice none n c)]=some (.v (.int .i64 n)):=iY underlying24
attribute [go_sem] cDf cDm cDu
@[go_sem] theorem cE3(H:aM)(ρ:Operand→AV)(x:Operand):cI prog H ρ (.makeInterface 24 x)=some (.ifc 24 (ρ x)):=by simp only [cI,underlying24]
theorem cDg(xs:List AV)(n:Nat)(f:Bool):dG prog .len [25] [.sl xs n f]=some (.v (.int .i64 n)):=kK underlying25
theorem cDn(j o n:Nat):dG prog .len [25] [.own j o n]=some (.v (.int .i64 n)):=iZ underlying25
theorem cDv(n c:Nat):dG prog .len [25] [.v (.slice none n c)]=some (.v (.int .i64 n)):=iY underlying25
attribute [go_sem] cDg cDn cDv
theorem cDh(xs:List AV)(n:Nat)(f:Bool):dG prog .len [27] [.sl xs n f]=some (.v (.int .i64 n)):=kK underlying27
theorem cDo(j o n:Nat):dG prog .len [27] [.own j o n]=some (.v (.int .i64 n)):=iZ underlying27
theorem cDw(n c:Nat):dG prog .len [27] [.v (.slice none n c)]=some (.v (.int .i64 n)):=iY underlying27
attribute [go_sem] cDh cDo cDw
theorem cDi(xs:List AV)(n:Nat)(f:Bool):dG prog .len [28] [.sl xs n f]=some (.v (.int .i64 n)):=kK underlying28
theorem cDp(j o n:Nat):dG prog .len [28] [.own j o n]=some (.v (.int .i64 n)):=iZ underlying28
theorem cDx(n c:Nat):dG prog .len [28] [.v (.slice none n c)]=some (.v (.int .i64 n)):=iY underlying28
attribute [go_sem] cDi cDp cDx
theorem cDj(xs:List AV)(n:Nat)(f:Bool):dG prog .len [31] [.sl xs n f]=some (.v (.int .i64 n)):=kK underlying31
theorem cDq(j o n:Nat):dG prog .len [31] [.own j o n]=some (.v (.int .i64 n)):=iZ underlying31
theorem cDy(n c:Nat):dG prog .len [31] [.v (.slice none n c)]=some (.v (.int .i64 n)):=iY underlying31
attribute [go_sem] cDj cDq cDy
@[go_sem] theorem cE4(H:aM)(ρ:Operand→AV)(x:Operand):cI prog H ρ (.makeInterface 36 x)=some (.ifc 36 (ρ x)):=by simp only [cI,underlying36]
theorem cDk(xs:List AV)(n:Nat)(f:Bool):dG prog .len [40] [.sl xs n f]=some (.v (.int .i64 n)):=kK underlying40
theorem cDr(j o n:Nat):dG prog .len [40] [.own j o n]=some (.v (.int .i64 n)):=iZ underlying40
theorem cDz(n c:Nat):dG prog .len [40] [.v (.slice none n c)]=some (.v (.int .i64 n)):=iY underlying40
attribute [go_sem] cDk cDr cDz
@[go_sem] theorem cE5(H:aM)(ρ:Operand→AV)(x:Operand):cI prog H ρ (.makeInterface 40 x)=some (.ifc 40 (ρ x)):=by simp only [cI,underlying40]
theorem cDl(xs:List AV)(n:Nat)(f:Bool):dG prog .len [54] [.sl xs n f]=some (.v (.int .i64 n)):=kK underlying54
theorem cDs(j o n:Nat):dG prog .len [54] [.own j o n]=some (.v (.int .i64 n)):=iZ underlying54
theorem cE0(n c:Nat):dG prog .len [54] [.v (.slice none n c)]=some (.v (.int .i64 n)):=iY underlying54
attribute [go_sem] cDl cDs cE0
theorem bWw(xs:List AV)(n:Nat)(f:Bool):dG prog .len [112] [.sl xs n f]=some (.v (.int .i64 n)):=kK underlying112
theorem bX2(j o n:Nat):dG prog .len [112] [.own j o n]=some (.v (.int .i64 n)):=iZ underlying112
theorem bX8(n c:Nat):dG prog .len [112] [.v (.slice none n c)]=some (.v (.int .i64 n)):=iY underlying112
attribute [go_sem] bWw bX2 bX8
theorem bWx(xs:List AV)(n:Nat)(f:Bool):dG prog .len [172] [.sl xs n f]=some (.v (.int .i64 n)):=kK underlying172
theorem bX3(j o n:Nat):dG prog .len [172] [.own j o n]=some (.v (.int .i64 n)):=iZ underlying172
theorem bX9(n c:Nat):dG prog .len [172] [.v (.slice none n c)]=some (.v (.int .i64 n)):=iY underlying172
attribute [go_sem] bWx bX3 bX9
theorem bWy(xs:List AV)(n:Nat)(f:Bool):dG prog .len [204] [.sl xs n f]=some (.v (.int .i64 n)):=kK underlying204
theorem bX4(j o n:Nat):dG prog .len [204] [.own j o n]=some (.v (.int .i64 n)):=iZ underlying204
theorem bXa(n c:Nat):dG prog .len [204] [.v (.slice none n c)]=some (.v (.int .i64 n)):=iY underlying204
attribute [go_sem] bWy bX4 bXa
theorem bWz(xs:List AV)(n:Nat)(f:Bool):dG prog .len [225] [.sl xs n f]=some (.v (.int .i64 n)):=kK underlying225
theorem bX5(j o n:Nat):dG prog .len [225] [.own j o n]=some (.v (.int .i64 n)):=iZ underlying225
theorem bXb(n c:Nat):dG prog .len [225] [.v (.slice none n c)]=some (.v (.int .i64 n)):=iY underlying225
attribute [go_sem] bWz bX5 bXb
theorem bX0(xs:List AV)(n:Nat)(f:Bool):dG prog .len [263] [.sl xs n f]=some (.v (.int .i64 n)):=kK underlying263
theorem bX6(j o n:Nat):dG prog .len [263] [.own j o n]=some (.v (.int .i64 n)):=iZ underlying263
theorem bXc(n c:Nat):dG prog .len [263] [.v (.slice none n c)]=some (.v (.int .i64 n)):=iY underlying263
attribute [go_sem] bX0 bX6 bXc
theorem bX1(xs:List AV)(n:Nat)(f:Bool):dG prog .len [265] [.sl xs n f]=some (.v (.int .i64 n)):=kK underlying265
theorem bX7(j o n:Nat):dG prog .len [265] [.own j o n]=some (.v (.int .i64 n)):=iZ underlying265
theorem bXd(n c:Nat):dG prog .len [265] [.v (.slice none n c)]=some (.v (.int .i64 n)):=iY underlying265
attribute [go_sem] bX1 bX7 bXd
attribute [go_sem] underlying0 sz0 underlying1 sz1 underlying2 sz2 underlying3 sz3 underlying4 sz4 underlying5 sz5 underlying6 sz6 underlying7 sz7 underlying8 sz8 underlying9 sz9 underlying10 cEa underlying11 cEb underlying12 cEc underlying13 cEd underlying14 cEe underlying15 cEf underlying16 cEg underlying17 cEh underlying18 cEi underlying19 cEj underlying20 cEk underlying21 cEl underlying22 cEm underlying23 bV1 underlying24 cEn underlying25 cEo underlying26 cEp underlying27 cBz underlying28 bS1 underlying29 cEq underlying30 cEr underlying31 cCi underlying32 cEs underlying33 bKn underlying34 cEt underlying35 cEu underlying36 cEv underlying37 cEw underlying38 cEx underlying39 cEy underlying40 cEz underlying41 cF0 underlying42 cF1 underlying43 fD underlying44 cF2 underlying45 cF3 underlying46 cF4 underlying47 cF5 underlying48 cF6 underlying49 cF7 underlying50 cF8 underlying51 cF9 underlying52 cFa underlying53 cFb underlying54 cFc underlying55 cFd underlying56 cFe underlying57 cFf underlying58 cFg underlying59 cFh underlying60 cFi underlying61 cFj underlying62 cFk underlying63 cFl underlying64 cFm underlying65 cFn underlying66 cFo underlying67 cFp underlying68 cFq underlying69 fR underlying70 cFr underlying71 cFs underlying72 cFt underlying73 cFu underlying74 cFv underlying75 cFw underlying76 cFx underlying77 cFy underlying78 cFz underlying79 cG0 underlying80 cG1 underlying81 cG2 underlying82 cG3 underlying83 cG4 underlying84 cG5 underlying85 cG6 underlying86 cG7 underlying87 cG8 underlying88 cG9 underlying89 cGa underlying90 cGb underlying91 cGc underlying92 cGd underlying93 cGe underlying94 cGf underlying95 cGg underlying96 cGh underlying97 cGi underlying98 cGj underlying99 cGk underlying100 bXq underlying101 bXr underlying102 aG3 underlying103 bXs underlying104 bBb underlying105 bXt underlying106 bXu underlying107 bXv underlying108 bXw underlying109 bXx underlying110 bXy underlying111 bXz underlying112 aQe underlying113 bY0 underlying114 bY1 underlying115 bY2 underlying116 bY3 underlying117 bY4 underlying118 bY5 underlying119 bY6 underlying120 bBc underlying121 bY7 underlying122 bY8 underlying123 bY9 underlying124 bYa underlying125 bYb underlying126 bYc underlying127 bYd underlying128 bYe underlying129 bYf underlying130 bYg underlying131 bYh underlying132 bYi underlying133 bYj underlying134 bYk underlying135 bYl underlying136 bYm underlying137 bYn underlying138 bYo underlying139 bYp underlying140 bYq underlying141 bYr underlying142 bYs underlying143 bYt underlying144 bYu underlying145 bYv underlying146 bYw underlying147 bYx underlying148 bYy underlying149 bYz underlying150 bZ0 underlying151 bZ1 underlying152 bZ2 underlying153 bZ3 underlying154 bZ4 underlying155 bZ5 underlying156 bZ6 underlying157 bZ7 underlying158 bH9 underlying159 bZ8 underlying160 bZ9 underlying161 bZa underlying162 bZb underlying163 bZc underlying164 bZd underlying165 bZe underlying166 bZf underlying167 bZg underlying168 bZh underlying169 bZi underlying170 bZj underlying171 bZk underlying172 bZl underlying173 bZm underlying174 bZn underlying175 bZo underlying176 bZp underlying177 bZq underlying178 bZr underlying179 bZs underlying180 bZt underlying181 bZu underlying182 bZv underlying183 bZw underlying184 bZx underlying185 bZy underlying186 bZz underlying187 cA0 underlying188 cA1 underlying189 cA2 underlying190 cA3 underlying191 cA4 underlying192 cA5 underlying193 cA6 underlying194 cA7 underlying195 cA8 underlying196 cA9 underlying197 cAa underlying198 cAb underlying199 cAc underlying200 cAd underlying201 cAe underlying202 cAf underlying203 cAg underlying204 cAh underlying205 cAi underlying206 cAj underlying207 cAk underlying208 cAl underlying209 cAm underlying210 cAn underlying211 cAo underlying212 cAp underlying213 cAq underlying214 cAr underlying215 cAs underlying216 cAt underlying217 cAu underlying218 cAv underlying219 cAw underlying220 cAx underlying221 cAy underlying222 cAz underlying223 cB0 underlying224 cB1 underlying225 cB2 underlying226 cB3 underlying227 cB4 underlying228 cB5 underlying229 cB6 underlying230 cB7 underlying231 aVu underlying233 cB8 underlying235 cB9 underlying236 cBa underlying237 cBb underlying238 cBc underlying241 cBd underlying242 cBe underlying243 cBf underlying244 cBg underlying245 cBh underlying246 cBi underlying247 cBj underlying248 cBk underlying249 cBl underlying250 cBm underlying251 cBn underlying253 cBo underlying254 cBp underlying256 cBq underlying257 cBr underlying261 cBs underlying263 cBt underlying264 cBu underlying265 cBv underlying266 cBw underlying267 cBx underlying269 cBy underlying270 cC0 underlying271 cC1 underlying272 cC2 underlying273 cC3 underlying274 cC4 underlying275 cC5 underlying276 cC6 underlying277 cC7 underlying278 cC8 underlying279 cC9 underlying280 cCa underlying281 cCb underlying282 cCc underlying283 cCd underlying284 cCe underlying285 cCf underlying286 cCg underlying287 cCh
end Go.Proofs.YtkdohhmacfoolaaGreat
